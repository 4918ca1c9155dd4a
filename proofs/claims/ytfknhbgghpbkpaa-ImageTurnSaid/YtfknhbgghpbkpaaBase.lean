/- The program's data as plain Lean data, how they read in memory, and small laws on numbers. -/
import Derived.Test.YtfknhbgghpbkpaaDraw
import Derived.Test.YtfknhbgghpbkpaaProg
namespace Go.Proofs.Ytfknhbgghpbkpaa
open Go.RowKit Cal Go.Proofs.YtfknhbgghpbkpaaW.PrintWords
namespace Cal
theorem wr_i64 {x : Int} (h1 : -9223372036854775808 ≤ x) (h2 : x ≤ 9223372036854775807) : IntKind.wrap .i64 x = x := IntWalk.i64_in _ ⟨h1, h2⟩
theorem wr_u32 {x : Int} (h1 : 0 ≤ x) (h2 : x ≤ 4294967295) : IntKind.wrap .u32 x = x := IntWalk.u32_in _ ⟨h1, h2⟩
theorem wr_u64 {x : Int} (h1 : 0 ≤ x) (h2 : x ≤ 18446744073709551615) : IntKind.wrap .u64 x = x := IntWalk.u64_in _ ⟨h1, h2⟩
theorem wr_u8 {x : Int} (h1 : 0 ≤ x) (h2 : x ≤ 255) : IntKind.wrap .u8 x = x := IntWalk.u8_in _ ⟨h1, h2⟩
theorem wr_nat (a b : Nat) (h : a + b ≤ 9223372036854775807) : IntKind.wrap .i64 ((a : Int) + (b : Int)) = ((a + b : Nat) : Int) := by
  rw [wr_i64 (by omega) (by omega)]; omega
theorem cell_up {wr w : World} {L : List Ent} (M : Mem wr w L) {a : Addr} {v : Value} (h : wr.cell? a = some v) : w.cell? a = some v := (M.below.cell (World.block_lt_of_cell? wr a h)).trans h
theorem C_up {α : Type} {d : Kd α} {wr w : World} {L : List Ent} (M : Mem wr w L) {A : Option Addr} {n : Nat} {xs : List α} (h : d.C wr A n xs) : d.C w A n xs := Kd.C_below h M.below
theorem C_some {α : Type} {d : Kd α} {w : World} {A : Option Addr} {n : Nat} {xs : List α} (h : d.C w A n xs) {k : Nat} (hk : k < n) : ∃ ad, A = some ad := by
  obtain ⟨ad, e, _⟩ := h.2.2 (by omega)
  exact ⟨ad, e⟩
theorem C_max {α : Type} {d : Kd α} {w : World} {A : Option Addr} {n : Nat} {xs : List α} (h : d.C w A n xs) : n ≤ 9223372036854775807 := h.2.1
/-- Where the first one is; -1: nowhere. -/
def idxF {α : Type} (p : α → Bool) (xs : List α) : Int := match xs.findIdx? p with
  | some i => (i : Int)
  | none => -1
theorem idxF_at {α : Type} {p : α → Bool} {xs : List α} {z : α} {k : Nat} (hk : k < xs.length) (hno : ∀ j, j < k → p (xs.getD j z) = false) (hp : p (xs.getD k z) = true) : (k : Int) = idxF p xs := by
  have hg : ∀ j, (h : j < xs.length) → xs.getD j z = xs[j] := fun j h => by simp [h]
  have : xs.findIdx? p = some k := by
    rw [List.findIdx?_eq_some_iff_getElem]
    refine ⟨hk, by rw [← hg k hk]; exact hp, fun j hj => ?_⟩
    have := hno j hj
    rw [hg j (by omega)] at this
    simp [this]
  unfold idxF
  rw [this]
theorem idxF_no {α : Type} {p : α → Bool} {xs : List α} {z : α} (hno : ∀ j, j < xs.length → p (xs.getD j z) = false) : -1 = idxF p xs := by
  have : xs.findIdx? p = none := by
    rw [List.findIdx?_eq_none_iff]
    intro x hx
    obtain ⟨j, hj, rfl⟩ := List.mem_iff_getElem.1 hx
    have := hno j hj
    simpa [hj] using this
  unfold idxF
  rw [this]
theorem idxF_ge {α : Type} (p : α → Bool) (xs : List α) : decide (idxF p xs ≥ 0) = xs.any p := by
  unfold idxF
  cases h : xs.findIdx? p with
  | none =>
    rw [List.findIdx?_eq_none_iff] at h
    have : xs.any p = false := by simpa using h
    rw [this]; decide
  | some i =>
    rw [List.findIdx?_eq_some_iff_getElem] at h
    obtain ⟨hi, hp, _⟩ := h
    have : xs.any p = true := List.any_eq_true.2 ⟨xs[i], List.getElem_mem hi, hp⟩
    rw [this]
    have : (i : Int) ≥ 0 := by omega
    simp [this]
theorem step_no {α : Type} {p : α → Bool} {xs : List α} {z : α} {k : Nat} (hno : ∀ j, j < k → p (xs.getD j z) = false) (hp : p (xs.getD k z) = false) : ∀ j, j < k + 1 → p (xs.getD j z) = false := fun j hj => by
  rcases Nat.lt_succ_iff_lt_or_eq.1 hj with h | h
  · exact hno j h
  · subst h; exact hp
theorem bel {wr w : World} {L : List Ent} (M : Mem wr w L) : Below wr.heap.size wr w := M.below
end Cal
structure Inst where
  op : Int
  fn : Int
  dst : Int
  src : Int
  reg : Bool
  off : Int
  imm : Int
  deriving DecidableEq
def Inst.cs (i : Inst) : Array Value := #[.int .i64 i.op, .int .i64 i.fn, .int .i64 i.dst, .int .i64 i.src, .bool i.reg, .int .i64 i.off, .int .u32 i.imm]
def Inst.z : Inst := ⟨0, 0, 0, 0, false, 0, 0⟩
def kInst : Kd Inst := Kd.iso (Kd.pair (Kd.int .i64) (Kd.pair (Kd.int .i64) (Kd.pair (Kd.int .i64) (Kd.pair (Kd.int .i64) (Kd.pair Kd.bool (Kd.pair (Kd.int .i64) (Kd.int .u32))))))) (fun x : Inst => (x.op, x.fn, x.dst, x.src, x.reg, x.off, x.imm))
theorem kInst_open {w : World} {x : Inst} {cs : List Value} (h : kInst.K w x cs) : cs = x.cs.toList := by
  obtain ⟨_, _, rfl, rfl, ⟨_, _, rfl, rfl, ⟨_, _, rfl, rfl, ⟨_, _, rfl, rfl, ⟨_, _, rfl, rfl, ⟨_, _, rfl, rfl, rfl⟩⟩⟩⟩⟩⟩ := h
  exact rfl
structure Fn where
  args : Int
  code : List Inst
  deriving DecidableEq
def Fn.z : Fn := ⟨0, []⟩
def kFn : Kd Fn := Kd.iso (Kd.pair (Kd.int .i64) (Kd.slice 65 kInst)) (fun x : Fn => (x.args, x.code))
theorem kFn_open {w : World} {x : Fn} {cs : List Value} (h : kFn.K w x cs) : ∃ A c, cs = [.int .i64 x.args, .slice A x.code.length c] ∧ x.code.length ≤ c ∧ kInst.C w A x.code.length x.code := by
  obtain ⟨_, _, rfl, rfl, ⟨A1, c1, rfl, l1, g1⟩⟩ := h
  exact ⟨A1, c1, rfl, l1, g1⟩
end Go.Proofs.Ytfknhbgghpbkpaa
