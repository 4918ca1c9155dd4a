/- What the document's answers of layers 2 and 3 come to: plain laws. -/
import Derived.Test.YtfknhbgghpbkpaaJoin
import Derived.Test.YtfknhbgghpbkpaaInst8
namespace Go.Proofs.Ytfknhbgghpbkpaa
open Go.RowKit Cal Go.Proofs.YtfknhbgghpbkpaaW.PrintWords
theorem instMay_iff (x : Inst) : instMay x = true ↔ (0 ≤ x.op ∧ x.op < 8) ∧ (0 ≤ x.dst ∧ x.dst < 8) ∧ (0 ≤ x.src ∧ x.src < 8) ∧ (0 ≤ x.fn ∧ (x.op = 0 → x.fn < 11) ∧ (x.op = 1 → x.fn < 5) ∧ (1 < x.op → x.fn < 1)) ∧ (0 ≤ x.off ∧ x.off ≤ 65535 ∧ (x.op ≠ 1 → x.off = 0)) ∧
    ((x.op < 5 ∧ (x.op = 1 → x.fn ≠ 0)) ∨ x.dst = 0) ∧ ((x.op < 5 ∧ (x.op = 1 → x.fn ≠ 0)) ∨ x.reg = false) ∧ ((x.op < 7 ∧ (x.op = 1 → x.fn ≠ 0)) ∨ x.imm = 0) ∧ (x.reg = true → x.imm = 0) ∧ (x.reg = false → x.src = 0) := by
  have hn : nop x = true ↔ x.op = 1 ∧ x.fn = 0 := by simp [nop]
  have hf : x.fn < rFns x.op ↔ (x.op = 0 → x.fn < 11) ∧ (x.op = 1 → x.fn < 5) ∧ (x.op ≠ 0 → x.op ≠ 1 → x.fn < 1) := by unfold rFns; split <;> (try split) <;> omega
  have ho : x.off < rOff x.op + 1 ↔ (x.op = 1 → x.off ≤ 65535) ∧ (x.op ≠ 1 → x.off < 1) := by unfold rOff; split <;> omega
  unfold instMay
  simp only [inB, Bool.and_eq_true, Bool.or_eq_true, decide_eq_true_eq, beq_iff_eq, rDst, rImm, Bool.not_eq_true', hf, ho]
  have hn' : nop x = false ↔ ¬ (x.op = 1 ∧ x.fn = 0) := by rw [← hn]; simp
  rw [hn']
  cases hr : x.reg
  · simp only [Bool.false_eq_true, if_false, beq_iff_eq, true_and, and_true, or_true, false_implies, forall_const]
    omega
  · simp only [if_true, beq_iff_eq, Bool.true_eq_false, or_false, false_implies, and_true, forall_const]
    omega
theorem isB_getD {ys : List Int} (h : ∀ x ∈ ys, isB x) (k : Nat) : 0 ≤ ys.getD k 0 ∧ ys.getD k 0 < 256 := by
  by_cases hk : k < ys.length
  · exact isB_at h k hk
  · rw [show ys.getD k 0 = 0 by simp [List.getElem?_eq_none (show ys.length ≤ k by omega)]]; decide
theorem l8 {α : Type} : ∀ {l : List α}, l.length = 8 → ∃ a b c d e f g h, l = [a, b, c, d, e, f, g, h]
  | [a, b, c, d, e, f, g, h], _ => ⟨a, b, c, d, e, f, g, h, rfl⟩
theorem instGet_eq {bs : List Int} (hl : bs.length = 8) (hb : ∀ x ∈ bs, isB x) : instGet bs =
    (if instMay ⟨bs.getD 0 0 / 16, bs.getD 0 0 % 16, bs.getD 1 0 % 128 / 8, bs.getD 1 0 % 8, decide (bs.getD 1 0 ≥ 128), 256 * bs.getD 2 0 + bs.getD 3 0, 16777216 * bs.getD 4 0 + 65536 * bs.getD 5 0 + 256 * bs.getD 6 0 + bs.getD 7 0⟩ = true then
      (⟨bs.getD 0 0 / 16, bs.getD 0 0 % 16, bs.getD 1 0 % 128 / 8, bs.getD 1 0 % 8, decide (bs.getD 1 0 ≥ 128), 256 * bs.getD 2 0 + bs.getD 3 0, 16777216 * bs.getD 4 0 + 65536 * bs.getD 5 0 + 256 * bs.getD 6 0 + bs.getD 7 0⟩, 0) else (Inst.z, 7)) := by
  have e : instOf bs = ⟨bs.getD 0 0 / 16, bs.getD 0 0 % 16, bs.getD 1 0 % 128 / 8, bs.getD 1 0 % 8, decide (bs.getD 1 0 ≥ 128), 256 * bs.getD 2 0 + bs.getD 3 0, 16777216 * bs.getD 4 0 + 65536 * bs.getD 5 0 + 256 * bs.getD 6 0 + bs.getD 7 0⟩ := by
    have h1 := isB_getD hb 1
    obtain ⟨a, b, c, d, e, f, g, h, rfl⟩ := l8 hl
    simp only [instOf, beP, beN, List.take_succ_cons, List.take_zero, List.drop_succ_cons, List.drop_zero, List.foldl_cons, List.foldl_nil, List.getD_cons_zero, List.getD_cons_succ] at h1 ⊢
    simp only [Inst.mk.injEq]
    refine ⟨by omega, by omega, by omega, by omega, ?_, by omega, by omega⟩
    rw [Bool.eq_iff_iff]; simp only [bne_iff_ne, ne_eq, decide_eq_true_eq]; omega
  unfold instGet
  rw [e]
  by_cases hm : instMay ⟨bs.getD 0 0 / 16, bs.getD 0 0 % 16, bs.getD 1 0 % 128 / 8, bs.getD 1 0 % 8, decide (bs.getD 1 0 ≥ 128), 256 * bs.getD 2 0 + bs.getD 3 0, 16777216 * bs.getD 4 0 + 65536 * bs.getD 5 0 + 256 * bs.getD 6 0 + bs.getD 7 0⟩ = true
  · rw [if_pos ⟨hl, hm⟩, if_pos hm]
  · rw [if_neg (fun h => hm h.2), if_neg hm]
theorem all_step {α : Type} {p : α → Bool} {xs : List α} {z : α} {k : Nat} (h : ∀ j, j < k → p (xs.getD j z) = true) (e : p (xs.getD k z) = true) : ∀ j, j < k + 1 → p (xs.getD j z) = true := fun j hj => by
  rcases Nat.lt_succ_iff_lt_or_eq.1 hj with h1 | h1
  · exact h j h1
  · subst h1; exact e
theorem all_of {α : Type} {p : α → Bool} {xs : List α} {z : α} {k : Nat} (hk : xs.length ≤ k) (h : ∀ j, j < k → p (xs.getD j z) = true) : xs.all p = true := by
  rw [List.all_eq_true]
  intro x hx
  obtain ⟨j, hj, rfl⟩ := List.mem_iff_getElem.1 hx
  have := h j (by omega)
  simpa [hj] using this
theorem all_not {α : Type} {p : α → Bool} {xs : List α} {z : α} {k : Nat} (hk : k < xs.length) (h : p (xs.getD k z) = false) : xs.all p = false := by
  rw [List.all_eq_false]
  exact ⟨xs.getD k z, at_mem z hk, by rw [h]; decide⟩
theorem code_no {x : Fn} {k : Nat} (hk : k < x.code.length) (h : instMay (x.code.getD k Inst.z) = false) : false = fnMay ⟨0, x.code⟩ := by
  unfold fnMay; rw [all_not hk h]; simp
theorem code_yes {x : Fn} {k : Nat} (hk : x.code.length ≤ k) (h : ∀ j, j < k → instMay (x.code.getD j Inst.z) = true) : (decide ((x.code.length : Int) ≥ 1) && decide ((x.code.length : Int) ≤ 64)) = fnMay ⟨0, x.code⟩ := by
  unfold fnMay; rw [all_of hk h, Bool.eq_iff_iff]; simp; omega
def mayAt (p : List Fn) (j : Nat) : Prop := fnMay ⟨0, (p.getD j Fn.z).code⟩ = true ∧ 0 ≤ (p.getD j Fn.z).args ∧ (p.getD j Fn.z).args ≤ 4 ∧ (j = 0 → (p.getD j Fn.z).args = 0)
theorem mayE_f {p : List Fn} {k : Nat} (h : (!fnMay ⟨0, (p.getD k Fn.z).code⟩ || decide ((p.getD k Fn.z).args < 0) || decide ((p.getD k Fn.z).args > 4) || ((k : Int) == 0) && (p.getD k Fn.z).args != 0) = false) : mayAt p k := by
  simp only [Bool.or_eq_false_iff, Bool.and_eq_false_iff, decide_eq_false_iff_not, beq_eq_false_iff_ne, bne_eq_false_iff_eq, Bool.not_eq_false', ne_eq] at h
  exact ⟨h.1.1.1, by omega, by omega, fun h0 => by omega⟩
theorem mayE_t {p : List Fn} {k : Nat} (h : (!fnMay ⟨0, (p.getD k Fn.z).code⟩ || decide ((p.getD k Fn.z).args < 0) || decide ((p.getD k Fn.z).args > 4) || ((k : Int) == 0) && (p.getD k Fn.z).args != 0) = true) : ¬ mayAt p k := by
  rintro ⟨h1, h2, h3, h4⟩
  rw [h1] at h
  simp only [Bool.or_eq_true, Bool.and_eq_true, decide_eq_true_eq, beq_iff_eq, bne_iff_ne, Bool.not_true, Bool.false_eq_true, false_or, ne_eq] at h
  omega
theorem mayAt_fn {p : List Fn} {j : Nat} (h : mayAt p j) : fnMay (p.getD j Fn.z) = true := by
  have h1 := fnMay_bd h.1
  simp only [fnMay, Bool.and_eq_true, decide_eq_true_eq, List.all_eq_true]
  exact ⟨⟨⟨⟨h.2.1, h.2.2.1⟩, h1.2.2.1⟩, h1.2.2.2.1⟩, h1.2.2.2.2⟩
theorem pmay_step {p : List Fn} {k : Nat} (h : ∀ j, j < k → mayAt p j) (e : mayAt p k) : ∀ j, j < k + 1 → mayAt p j := fun j hj => by
  rcases Nat.lt_succ_iff_lt_or_eq.1 hj with h1 | h1
  · exact h j h1
  · subst h1; exact e
theorem fnMay_code {f : Fn} (h : fnMay f = true) : fnMay ⟨0, f.code⟩ = true := by
  have h1 := fnMay_bd h
  simp only [fnMay, Bool.and_eq_true, decide_eq_true_eq, List.all_eq_true]
  exact ⟨⟨⟨⟨by decide, by decide⟩, h1.2.2.1⟩, h1.2.2.2.1⟩, h1.2.2.2.2⟩
theorem rmay_no {p : List Fn} {k : Nat} (hk : k < p.length) (h : ¬ mayAt p k) : false = progMay p := by
  cases hp : progMay p with
  | false => rfl
  | true =>
    have hb := progMay_bd hp
    have hf := hb.2.2.2 _ (at_mem Fn.z hk)
    have hb2 := fnMay_bd hf
    refine absurd ⟨fnMay_code hf, hb2.1, hb2.2.1, fun h0 => ?_⟩ h
    subst h0; exact hb.2.2.1
theorem rmay_yes {p : List Fn} {k : Nat} (hk : p.length ≤ k) (h : ∀ j, j < k → mayAt p j) : (decide ((p.length : Int) ≥ 1) && decide ((p.length : Int) ≤ 8)) = progMay p := by
  have h1 : p.all fnMay = true := by
    rw [List.all_eq_true]
    intro x hx
    obtain ⟨j, hj, rfl⟩ := List.mem_iff_getElem.1 hx
    have := mayAt_fn (h j (by omega))
    simpa [hj] using this
  unfold progMay
  rw [h1, Bool.eq_iff_iff]
  simp only [Bool.and_eq_true, decide_eq_true_eq, beq_iff_eq, and_true]
  constructor
  · rintro ⟨h2, h3⟩
    exact ⟨⟨by omega, by omega⟩, (h 0 (by omega)).2.2.2 rfl⟩
  · rintro ⟨⟨h2, h3⟩, _⟩
    omega
end Go.Proofs.Ytfknhbgghpbkpaa
