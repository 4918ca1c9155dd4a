/- Plain lemmas on rows that are compared; few. -/
import Derived.Test.YtfknhbgghpbkpaaInst4
import Derived.Test.YtfknhbgghpbkpaaEq
namespace Go.Proofs.Ytfknhbgghpbkpaa
open Go.RowKit Cal Go.Proofs.YtfknhbgghpbkpaaW.PrintWords
theorem ext_getD {α : Type} (z : α) {xs ys : List α} (hl : xs.length = ys.length) (h : ∀ j, j < xs.length → xs.getD j z = ys.getD j z) : xs = ys := by
  apply List.ext_getElem hl
  intro j h1 h2
  have := h j h1
  simpa [h1, h2] using this
theorem ext_step {α : Type} {z : α} {xs ys : List α} {k : Nat} (h : ∀ j, j < k → xs.getD j z = ys.getD j z) (e : xs.getD k z = ys.getD k z) : ∀ j, j < k + 1 → xs.getD j z = ys.getD j z := fun j hj => by
  rcases Nat.lt_succ_iff_lt_or_eq.1 hj with h1 | h1
  · exact h j h1
  · subst h1; exact e
def fewF (f : Fn) : Bool := decide (f.code.length ≤ 80)
def fewB (p : List Fn) : Bool := decide (p.length ≤ 12) && p.all fewF
def fewTo (p : List Fn) (k : Nat) : Bool := decide (p.length ≤ 12) && (p.take k).all fewF
theorem fewTo_zero (p : List Fn) : fewTo p 0 = decide ((p.length : Int) ≤ 12) := by
  unfold fewTo
  simp only [List.take_zero, List.all_nil, Bool.and_true]
  exact decide_eq_decide.2 (by omega)
theorem fewTo_all {p : List Fn} {k : Nat} (h : p.length ≤ k) : fewTo p k = fewB p := by
  unfold fewTo fewB
  rw [List.take_of_length_le h]
theorem fewTo_no {p : List Fn} {k : Nat} (h : fewTo p k = false) : fewB p = false := by
  unfold fewTo at h
  unfold fewB
  rw [Bool.and_eq_false_iff] at h ⊢
  refine h.imp id fun h => ?_
  rw [List.all_eq_false] at h ⊢
  obtain ⟨x, hx, hn⟩ := h
  exact ⟨x, List.mem_of_mem_take hx, hn⟩
theorem fewTo_step {p : List Fn} {k : Nat} (hk : k < p.length) (h : fewTo p k = true) : decide (((p.getD k Fn.z).code.length : Int) ≤ 80) = fewTo p (k + 1) := by
  have e : p.getD k Fn.z = p[k] := by simp [hk]
  rw [e]
  unfold fewTo at h ⊢
  rw [List.take_succ_eq_append_getElem hk, List.all_append]
  rw [Bool.and_eq_true] at h
  rw [h.1, h.2]
  simp only [fewF, List.all_cons, List.all_nil, Bool.and_true, Bool.true_and]
  exact decide_eq_decide.2 (by omega)
theorem fewB_bd {p : List Fn} (h : fewB p = true) : p.length ≤ 12 ∧ ∀ f ∈ p, f.code.length ≤ 80 := by
  simp only [fewB, Bool.and_eq_true, decide_eq_true_eq, List.all_eq_true] at h
  exact ⟨h.1, fun f hf => by simpa [fewF] using h.2 f hf⟩
end Go.Proofs.Ytfknhbgghpbkpaa
