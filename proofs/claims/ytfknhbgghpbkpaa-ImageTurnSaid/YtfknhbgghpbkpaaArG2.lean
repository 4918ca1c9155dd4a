/- What is made of the gaps: the first that fits, how much they are, whether one fits. -/
import Derived.Test.YtfknhbgghpbkpaaArG1
namespace Go.Proofs.Ytfknhbgghpbkpaa
open Go.RowKit Cal Go.Proofs.YtfknhbgghpbkpaaW.PrintWords
def fitG (n : Int) (x : Int × Int) : Bool := decide (IntKind.wrap .i64 (x.2 - x.1) ≥ n)
def lastG (s : List (Int × Int)) : Int × Int := s.getLastD (0, 0)
theorem lastG_snoc (s : List (Int × Int)) (x : Int × Int) : lastG (s ++ [x]) = x := by simp [lastG, List.getLastD_eq_getLast?]
def noG (n : Int) (s : List (Int × Int)) : Prop := ∀ y ∈ s, fitG n y = false
theorem noG_nil (n : Int) : noG n [] := fun y h => by cases h
theorem noG_snoc {n : Int} {s : List (Int × Int)} {x : Int × Int} (h : noG n s) (hx : fitG n x = false) : noG n (s ++ [x]) := fun y hy => by
  rcases List.mem_append.1 hy with h1 | h1
  · exact h y h1
  · rw [List.mem_singleton.1 h1]; exact hx
def hitG (n : Int) (s : List (Int × Int)) : Prop := ∃ pre x, s = pre ++ [x] ∧ noG n pre ∧ fitG n x = true
def findM (cap : Int) (l : List Blk) (n : Int) : Int × Bool := if mMay cap l = true ∧ 1 ≤ n then (match (gapsF cap l).find? (fitG n) with | some x => (x.1, true) | none => (0, false)) else (0, false)
theorem findM_no {cap : Int} {l : List Blk} {n : Int} (h : mMay cap l = false ∨ n < 1) : findM cap l n = (0, false) := by
  unfold findM
  rw [if_neg (by rintro ⟨h1, h2⟩; rcases h with h | h; rw [h1] at h; cases h; omega)]
theorem findM_none {cap : Int} {l : List Blk} {n : Int} (h : noG n (gapsF cap l)) : findM cap l n = (0, false) := by
  unfold findM
  rw [List.find?_eq_none.2 (fun x hx => by rw [h x hx]; decide)]
  split <;> rfl
theorem findM_hit {cap : Int} {l : List Blk} {n : Int} {s : List (Int × Int)} (hm : mMay cap l = true) (hn : 1 ≤ n) (hp : s <+: gapsF cap l) (h : hitG n s) : findM cap l n = ((lastG s).1, true) := by
  obtain ⟨pre, x, rfl, h1, h2⟩ := h
  obtain ⟨r, hr⟩ := hp
  unfold findM
  rw [if_pos ⟨hm, hn⟩, ← hr, lastG_snoc]
  have e : ((pre ++ [x]) ++ r).find? (fitG n) = some x := by
    rw [List.append_assoc, List.find?_append, List.find?_eq_none.2 (fun y hy => by rw [h1 y hy]; decide)]
    simp [h2]
  rw [e]
def sumG (s : List (Int × Int)) : Int := s.foldl (fun a x => IntKind.wrap .i64 (a + IntKind.wrap .i64 (x.2 - x.1))) 0
theorem sumG_snoc (s : List (Int × Int)) (x : Int × Int) : sumG (s ++ [x]) = IntKind.wrap .i64 (sumG s + IntKind.wrap .i64 (x.2 - x.1)) := by simp [sumG]
def leftM (cap : Int) (l : List Blk) : Int := if mMay cap l = true then sumG (gapsF cap l) else 0
def fits (a n : Int) (x : Int × Int) : Bool := decide (a ≥ x.1) && decide (a < x.2) && decide (n ≤ IntKind.wrap .i64 (x.2 - a))
def anyG (a n : Int) (s : List (Int × Int)) : Bool := s.foldl (fun b x => b || fits a n x) false
theorem anyG_snoc (a n : Int) (s : List (Int × Int)) (x : Int × Int) : anyG a n (s ++ [x]) = (anyG a n s || fits a n x) := by simp [anyG]
end Go.Proofs.Ytfknhbgghpbkpaa
