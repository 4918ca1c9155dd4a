/- What came in, read: words, a block, a memory. -/
import Derived.Test.YtfknhbgghpbkpaaOpen
import Derived.Test.YtfknhbgghpbkpaaAr0
namespace Go.Proofs.Ytfknhbgghpbkpaa
open Go.RowKit Go.WideShapes Go.Deep Cal Go.Proofs.YtfknhbgghpbkpaaW.PrintWords
section
variable {H : Type} {enc : TypeId × Value → H} {w : World} {base : Nat} {spare : Nat → Bool} {held : Bool} {fuel : Nat} {cs : List Value} {x : DataW H × List MemPlace}
theorem l3 {α : Type} : ∀ {l : List α}, l.length = 3 → ∃ a b c, l = [a, b, c]
  | [a, b, c], _ => ⟨a, b, c, rfl⟩
theorem rd_words (h : DataW.trod enc Try.prog w base spare held fuel 25 cs = some x) : ∃ (A : Option Addr) (c : Nat) (xs : List Int), cs = [.slice A xs.length c] ∧ xs.length ≤ c ∧ kW.C w A xs.length xs := by
  obtain ⟨A, c, xs, h1, h2, h3, _⟩ := rd_slice (d := kW) Try.underlying25 (by kernel_rfl) (fun _ => True) (fun _ _ _ h => by
    obtain ⟨n, rfl, _, hw⟩ := DataW.trod_int Try.underlying26 h
    exact ⟨n, rfl, trivial⟩) h
  exact ⟨A, c, xs, h1, h2, h3⟩
theorem rd_blk (h : DataW.trod enc Try.prog w base spare held fuel 103 cs = some x) : ∃ b : Blk, kBlk.K w b cs := by
  obtain ⟨xs, n, _, _, hl, hxl, hf⟩ := DataW.trod_struct Try.underlying103 h
  have hl : cs.length = 3 := hl.trans (by kernel_rfl)
  have hxl : xs.length = 3 := hxl
  obtain ⟨c0, c1, c2, rfl⟩ := l3 hl
  obtain ⟨y0, e0⟩ := at_some hxl (i := 0) (by decide)
  obtain ⟨y1, e1⟩ := at_some hxl (i := 1) (by decide)
  obtain ⟨y2, e2⟩ := at_some hxl (i := 2) (by decide)
  have f0 : DataW.trod enc Try.prog w base spare held n 3 [c0] = some y0 := cut_one (by kernel_rfl) rfl ((hf 0 _ rfl).trans e0)
  have f1 : DataW.trod enc Try.prog w base spare held n 3 [c1] = some y1 := cut_one (by kernel_rfl) rfl ((hf 1 _ rfl).trans e1)
  have f2 : DataW.trod enc Try.prog w base spare held n 25 [c2] = some y2 := cut_one (by kernel_rfl) rfl ((hf 2 _ rfl).trans e2)
  obtain ⟨a0, q0, _, w0⟩ := DataW.trod_int Try.underlying3 f0
  obtain ⟨a1, q1, _, w1⟩ := DataW.trod_int Try.underlying3 f1
  obtain ⟨A, c, l, q2, hle, hC⟩ := rd_words f2
  simp only [List.cons.injEq, and_true] at q0 q1 q2
  subst q0 q1 q2
  exact ⟨⟨a0, a1, l⟩, ⟨[_], _, rfl, rfl, ⟨[_], [_], rfl, rfl, ⟨A, c, rfl, hle, hC⟩⟩⟩⟩
theorem rd_mem (h : DataW.trod enc Try.prog w base spare held fuel 24 cs = some x) : ∃ (cap : Int) (A : Option Addr) (c : Nat) (l : List Blk), cs = [.int .i64 cap, .slice A l.length c] ∧ l.length ≤ c ∧ kBlk.C w A l.length l ∧ I64 cap := by
  obtain ⟨xs, n, _, _, hl, hxl, hf⟩ := DataW.trod_struct Try.underlying24 h
  have hl : cs.length = 2 := hl.trans (by kernel_rfl)
  have hxl : xs.length = 2 := hxl
  obtain ⟨c0, c1, rfl⟩ := l2 hl
  obtain ⟨y0, e0⟩ := at_some hxl (i := 0) (by decide)
  obtain ⟨y1, e1⟩ := at_some hxl (i := 1) (by decide)
  have f0 : DataW.trod enc Try.prog w base spare held n 3 [c0] = some y0 := cut_one (by kernel_rfl) rfl ((hf 0 _ rfl).trans e0)
  have f1 : DataW.trod enc Try.prog w base spare held n 22 [c1] = some y1 := cut_one (by kernel_rfl) rfl ((hf 1 _ rfl).trans e1)
  obtain ⟨a0, q0, _, w0⟩ := DataW.trod_int Try.underlying3 f0
  obtain ⟨A, c, l, q1, hle, hC, _⟩ := rd_slice (d := kBlk) Try.underlying22 (by kernel_rfl) (fun _ => True) (fun _ _ _ h => by
    obtain ⟨b, hb⟩ := rd_blk h
    exact ⟨b, hb, trivial⟩) f1
  simp only [List.cons.injEq, and_true] at q0 q1
  subst q0 q1
  exact ⟨a0, A, c, l, rfl, hle, hC, wf_i64 w0⟩
end
end Go.Proofs.Ytfknhbgghpbkpaa
