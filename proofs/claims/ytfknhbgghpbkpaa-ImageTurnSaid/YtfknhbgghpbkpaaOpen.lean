/- What came in, read: an instruction, a function, a program; rows of them. -/
import Derived.Test.YtfknhbgghpbkpaaParts
import Derived.Deep.Slices
import Derived.WideShapes
namespace Go.Proofs.Ytfknhbgghpbkpaa
open Go.RowKit Go.WideShapes Go.Deep Cal Go.Proofs.YtfknhbgghpbkpaaW.PrintWords
def I64 (n : Int) : Prop := -9223372036854775808 ≤ n ∧ n ≤ 9223372036854775807
def Inst.ok (x : Inst) : Prop := I64 x.op ∧ I64 x.fn ∧ I64 x.dst ∧ I64 x.src ∧ I64 x.off ∧ 0 ≤ x.imm ∧ x.imm < 4294967296
def Fn.ok (f : Fn) : Prop := I64 f.args ∧ ∀ x ∈ f.code, x.ok
def IsB (x : Int) : Prop := 0 ≤ x ∧ x < 256
theorem wf_i64 {n : Int} (h : (Lit.int .i64 n).wf = true) : I64 n := by
  simp [Lit.wf, IntKind.min, IntKind.max, IntKind.signed, IntKind.bits] at h
  exact ⟨by omega, by omega⟩
theorem wf_u32 {n : Int} (h : (Lit.int .u32 n).wf = true) : 0 ≤ n ∧ n < 4294967296 := by
  simp [Lit.wf, IntKind.min, IntKind.max, IntKind.signed, IntKind.bits] at h
  exact ⟨by omega, by omega⟩
theorem wf_u8 {n : Int} (h : (Lit.int .u8 n).wf = true) : IsB n := by
  simp [Lit.wf, IntKind.min, IntKind.max, IntKind.signed, IntKind.bits] at h
  exact ⟨by omega, by omega⟩
section
variable {H : Type} {enc : TypeId × Value → H} {w : World} {base : Nat} {spare : Nat → Bool} {held : Bool} {fuel : Nat} {cs : List Value} {x : DataW H × List MemPlace}
theorem l7 {α : Type} : ∀ {l : List α}, l.length = 7 → ∃ a b c d e f g, l = [a, b, c, d, e, f, g]
  | [a, b, c, d, e, f, g], _ => ⟨a, b, c, d, e, f, g, rfl⟩
theorem l2 {α : Type} : ∀ {l : List α}, l.length = 2 → ∃ a b, l = [a, b]
  | [a, b], _ => ⟨a, b, rfl⟩
theorem l1 {α : Type} : ∀ {l : List α}, l.length = 1 → ∃ a, l = [a]
  | [a], _ => ⟨a, rfl⟩
theorem at_some {α : Type} {l : List α} {n i : Nat} (h : l.length = n) (hi : i < n) : ∃ y, l[i]? = some y := ⟨l[i]'(by omega), List.getElem?_eq_getElem (by omega)⟩
theorem rd_slice {α : Type} {d : Kd α} {T e : TypeId} (hu : Try.prog.underlying T = some (.slice e)) (hs : Try.prog.cellsOf e = d.sz) (Q : α → Prop)
    (he : ∀ fuel cs x, DataW.trod enc Try.prog w base spare held fuel e cs = some x → ∃ a, d.K w a cs ∧ Q a) (h : DataW.trod enc Try.prog w base spare held fuel T cs = some x) :
    ∃ (A : Option Addr) (c : Nat) (xs : List α), cs = [.slice A xs.length c] ∧ xs.length ≤ c ∧ d.C w A xs.length xs ∧ ∀ a ∈ xs, Q a := by
  rcases open_slice hu h with ⟨rfl, _⟩ | ⟨a, len, cap, m, n, D, Pl, rfl, _, hl, hm, hmm, _, hel⟩
  · exact ⟨none, 0, [], rfl, Nat.le_refl _, Kd.C_nil _ _, fun _ h => by cases h⟩
  · have hlm : len ≤ m := by rw [hmm]; split <;> omega
    have key : ∀ k, k ≤ len → ∃ xs : List α, xs.length = k ∧ (∀ j p, xs[j]? = some p → ∃ c, c.length = d.sz ∧ d.K w p c ∧ ∀ i u, c[i]? = some u → w.cell? (a.add (j * d.sz + i)) = some u) ∧ ∀ p ∈ xs, Q p := by
      intro k
      induction k with
      | zero => exact fun _ => ⟨[], rfl, fun j p hj => by simp at hj, fun _ h => by cases h⟩
      | succ k ih =>
        intro hk
        obtain ⟨xs, hxl, hx, hq⟩ := ih (by omega)
        obtain ⟨cs', hc, ht⟩ := hel k (by omega)
        obtain ⟨p, hK, hQ⟩ := he _ _ _ ht
        obtain ⟨_, hlen, hcell⟩ := World.cells?_some hc
        rw [hs] at hlen hcell
        refine ⟨xs ++ [p], by simp [hxl], fun j q hj => ?_, fun q hq' => ?_⟩
        · rcases Nat.lt_or_ge j xs.length with hlt | hge
          · rw [List.getElem?_append_left hlt] at hj
            exact hx j q hj
          · rw [List.getElem?_append_right hge] at hj
            have hj0 : j - xs.length = 0 := by
              rcases Nat.eq_zero_or_pos (j - xs.length) with h0 | h0
              · exact h0
              · rw [List.getElem?_eq_none (by simp; omega)] at hj; cases hj
            rw [hj0] at hj
            simp only [List.getElem?_cons_zero, Option.some.injEq] at hj
            subst hj
            obtain rfl : j = k := by omega
            refine ⟨cs', hlen, hK, fun i u hu' => ?_⟩
            have hi : i < d.sz := by rw [← hlen]; exact (List.getElem?_eq_some_iff.1 hu').1
            rw [← hu', ← hcell i hi, Go.Deep.add_add]
        · rcases List.mem_append.1 hq' with h1 | h1
          · exact hq q h1
          · rw [List.mem_singleton.1 h1]; exact hQ
    obtain ⟨xs, hxl, hx, hq⟩ := key len (Nat.le_refl _)
    subst hxl
    exact ⟨some a, cap, xs, rfl, hl, ⟨rfl, by simp only [maxLen] at hm; omega, fun _ => ⟨a, rfl, hx⟩⟩, hq⟩
theorem cut_one {t : TypeId} {k o n : Nat} {c : Value} {y : DataW H × List MemPlace} (hk : k = 1) (hc : (cs.drop o).take 1 = [c]) (h : DataW.trod enc Try.prog w base spare held n t ((cs.drop o).take k) = some y) : DataW.trod enc Try.prog w base spare held n t [c] = some y := by
  subst hk; rw [hc] at h; exact h
theorem rd_inst (h : DataW.trod enc Try.prog w base spare held fuel 65 cs = some x) : ∃ i : Inst, kInst.K w i cs ∧ i.ok := by
  obtain ⟨xs, n, _, _, hl, hxl, hf⟩ := DataW.trod_struct Try.underlying65 h
  have hl : cs.length = 7 := hl.trans (by kernel_rfl)
  have hxl : xs.length = 7 := hxl
  obtain ⟨c0, c1, c2, c3, c4, c5, c6, rfl⟩ := l7 hl
  obtain ⟨y0, e0⟩ := at_some hxl (i := 0) (by decide)
  obtain ⟨y1, e1⟩ := at_some hxl (i := 1) (by decide)
  obtain ⟨y2, e2⟩ := at_some hxl (i := 2) (by decide)
  obtain ⟨y3, e3⟩ := at_some hxl (i := 3) (by decide)
  obtain ⟨y4, e4⟩ := at_some hxl (i := 4) (by decide)
  obtain ⟨y5, e5⟩ := at_some hxl (i := 5) (by decide)
  obtain ⟨y6, e6⟩ := at_some hxl (i := 6) (by decide)
  have f0 : DataW.trod enc Try.prog w base spare held n 3 [c0] = some y0 := cut_one (by kernel_rfl) rfl ((hf 0 _ rfl).trans e0)
  have f1 : DataW.trod enc Try.prog w base spare held n 3 [c1] = some y1 := cut_one (by kernel_rfl) rfl ((hf 1 _ rfl).trans e1)
  have f2 : DataW.trod enc Try.prog w base spare held n 3 [c2] = some y2 := cut_one (by kernel_rfl) rfl ((hf 2 _ rfl).trans e2)
  have f3 : DataW.trod enc Try.prog w base spare held n 3 [c3] = some y3 := cut_one (by kernel_rfl) rfl ((hf 3 _ rfl).trans e3)
  have f4 : DataW.trod enc Try.prog w base spare held n 4 [c4] = some y4 := cut_one (by kernel_rfl) rfl ((hf 4 _ rfl).trans e4)
  have f5 : DataW.trod enc Try.prog w base spare held n 3 [c5] = some y5 := cut_one (by kernel_rfl) rfl ((hf 5 _ rfl).trans e5)
  have f6 : DataW.trod enc Try.prog w base spare held n 46 [c6] = some y6 := cut_one (by kernel_rfl) rfl ((hf 6 _ rfl).trans e6)
  obtain ⟨a0, q0, _, w0⟩ := DataW.trod_int Try.underlying3 f0
  obtain ⟨a1, q1, _, w1⟩ := DataW.trod_int Try.underlying3 f1
  obtain ⟨a2, q2, _, w2⟩ := DataW.trod_int Try.underlying3 f2
  obtain ⟨a3, q3, _, w3⟩ := DataW.trod_int Try.underlying3 f3
  obtain ⟨a4, q4, _⟩ := DataW.trod_bool Try.underlying4 f4
  obtain ⟨a5, q5, _, w5⟩ := DataW.trod_int Try.underlying3 f5
  obtain ⟨a6, q6, _, w6⟩ := DataW.trod_int Try.underlying46 f6
  simp only [List.cons.injEq, and_true] at q0 q1 q2 q3 q4 q5 q6
  subst q0 q1 q2 q3 q4 q5 q6
  exact ⟨⟨a0, a1, a2, a3, a4, a5, a6⟩, ⟨[_], _, rfl, rfl, ⟨[_], _, rfl, rfl, ⟨[_], _, rfl, rfl, ⟨[_], _, rfl, rfl, ⟨[_], _, rfl, rfl, ⟨[_], _, rfl, rfl, rfl⟩⟩⟩⟩⟩⟩, wf_i64 w0, wf_i64 w1, wf_i64 w2, wf_i64 w3, wf_i64 w5, wf_u32 w6⟩
theorem rd_insts (h : DataW.trod enc Try.prog w base spare held fuel 55 cs = some x) : ∃ (A : Option Addr) (c : Nat) (xs : List Inst), cs = [.slice A xs.length c] ∧ xs.length ≤ c ∧ kInst.C w A xs.length xs ∧ ∀ a ∈ xs, a.ok :=
  rd_slice Try.underlying55 (by kernel_rfl) Inst.ok (fun _ _ _ h => rd_inst h) h
theorem rd_fn (h : DataW.trod enc Try.prog w base spare held fuel 57 cs = some x) : ∃ (f : Fn) (A : Option Addr) (c : Nat), cs = [.int .i64 f.args, .slice A f.code.length c] ∧ f.code.length ≤ c ∧ kInst.C w A f.code.length f.code ∧ f.ok := by
  obtain ⟨xs, n, _, _, hl, hxl, hf⟩ := DataW.trod_struct Try.underlying57 h
  have hl : cs.length = 2 := hl.trans (by kernel_rfl)
  have hxl : xs.length = 2 := hxl
  obtain ⟨c0, c1, rfl⟩ := l2 hl
  obtain ⟨y0, e0⟩ := at_some hxl (i := 0) (by decide)
  obtain ⟨y1, e1⟩ := at_some hxl (i := 1) (by decide)
  have f0 : DataW.trod enc Try.prog w base spare held n 3 [c0] = some y0 := cut_one (by kernel_rfl) rfl ((hf 0 _ rfl).trans e0)
  have f1 : DataW.trod enc Try.prog w base spare held n 55 [c1] = some y1 := cut_one (by kernel_rfl) rfl ((hf 1 _ rfl).trans e1)
  obtain ⟨a0, q0, _, w0⟩ := DataW.trod_int Try.underlying3 f0
  obtain ⟨A, c, l, q1, hle, hC, hok⟩ := rd_insts f1
  simp only [List.cons.injEq, and_true] at q0 q1
  subst q0 q1
  exact ⟨⟨a0, l⟩, A, c, rfl, hle, hC, wf_i64 w0, hok⟩
theorem rd_fns (h : DataW.trod enc Try.prog w base spare held fuel 43 cs = some x) : ∃ (A : Option Addr) (c : Nat) (xs : List Fn), cs = [.slice A xs.length c] ∧ xs.length ≤ c ∧ kFn.C w A xs.length xs ∧ ∀ a ∈ xs, a.ok :=
  rd_slice Try.underlying43 (by kernel_rfl) Fn.ok (fun _ _ _ h => by
    obtain ⟨f, A, c, rfl, hle, hC, hok⟩ := rd_fn h
    exact ⟨f, ⟨[_], [_], rfl, rfl, A, c, rfl, hle, hC⟩, hok⟩) h
theorem rd_prog (h : DataW.trod enc Try.prog w base spare held fuel 45 cs = some x) : ∃ (A : Option Addr) (c : Nat) (xs : List Fn), cs = [.slice A xs.length c] ∧ xs.length ≤ c ∧ kFn.C w A xs.length xs ∧ ∀ a ∈ xs, a.ok := by
  obtain ⟨xs, n, _, _, hl, hxl, hf⟩ := DataW.trod_struct Try.underlying45 h
  have hl : cs.length = 1 := hl.trans (by kernel_rfl)
  have hxl : xs.length = 1 := hxl
  obtain ⟨c0, rfl⟩ := l1 hl
  obtain ⟨y0, e0⟩ := at_some hxl (i := 0) (by decide)
  have f0 : DataW.trod enc Try.prog w base spare held n 43 [c0] = some y0 := cut_one (by kernel_rfl) rfl ((hf 0 _ rfl).trans e0)
  exact rd_fns f0
theorem rd_bytes (h : DataW.trod enc Try.prog w base spare held fuel 71 cs = some x) : ∃ (A : Option Addr) (c : Nat) (xs : List Int), cs = [.slice A xs.length c] ∧ xs.length ≤ c ∧ kB.C w A xs.length xs ∧ ∀ a ∈ xs, IsB a :=
  rd_slice Try.underlying71 (by kernel_rfl) IsB (fun _ _ _ h => by
    obtain ⟨n, rfl, _, hw⟩ := DataW.trod_int Try.underlying5 h
    exact ⟨n, rfl, wf_u8 hw⟩) h
end
end Go.Proofs.Ytfknhbgghpbkpaa
