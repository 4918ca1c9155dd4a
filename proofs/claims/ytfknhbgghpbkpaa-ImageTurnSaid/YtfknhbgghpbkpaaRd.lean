/- What the reader of bytes comes to, as plain functions. -/
import Derived.Test.YtfknhbgghpbkpaaSl
import Derived.Test.YtfknhbgghpbkpaaDraw2
import Derived.Test.YtfknhbgghpbkpaaInst3
namespace Go.Proofs.Ytfknhbgghpbkpaa
open Go.RowKit Cal Go.Proofs.YtfknhbgghpbkpaaW.PrintWords
abbrev RS := List Int × Bool
def rdTake (n : Nat) (s : RS) : List Int × RS := if s.2 = true ∨ s.1.length < n then (List.replicate n 0, (s.1, true)) else (s.1.take n, (s.1.drop n, false))
def rdInt (s : RS) : Int × RS := ((rdTake 1 s).1.getD 0 0, (rdTake 1 s).2)
def rdInst (s : RS) : Inst × RS := ((instGet (rdTake 8 s).1).1, ((rdTake 8 s).2.1, (rdTake 8 s).2.2 || (instGet (rdTake 8 s).1).2 != 0))
def rdCode : Nat → List Inst → RS → List Inst × RS
  | 0, acc, s => (acc, s)
  | n + 1, acc, s => if s.2 = true then (acc, s) else rdCode n (acc ++ [(rdInst s).1]) (rdInst s).2
def rdFn (s : RS) : Fn × RS :=
  let a := rdInt s
  let n := rdInt a.2
  let c := rdCode n.1.toNat [] n.2
  (⟨a.1, c.1⟩, c.2)
def rdFns : Nat → List Fn → RS → List Fn × RS
  | 0, acc, s => (acc, s)
  | n + 1, acc, s => if s.2 = true then (acc, s) else rdFns n (acc ++ [(rdFn s).1]) (rdFn s).2
theorem rdCode_stop {n : Nat} {acc : List Inst} {s : RS} (h : n = 0 ∨ s.2 = true) : rdCode n acc s = (acc, s) := by
  cases n with
  | zero => rfl
  | succ n => unfold rdCode; rw [if_pos (h.resolve_left (by omega))]
theorem rdCode_go {n : Nat} {acc : List Inst} {s : RS} (h0 : 0 < n) (h : s.2 = false) : rdCode n acc s = rdCode (n - 1) (acc ++ [(rdInst s).1]) (rdInst s).2 := by
  cases n with
  | zero => omega
  | succ n => rw [rdCode, if_neg (by rw [h]; decide)]; rfl
theorem rdFns_stop {n : Nat} {acc : List Fn} {s : RS} (h : n = 0 ∨ s.2 = true) : rdFns n acc s = (acc, s) := by
  cases n with
  | zero => rfl
  | succ n => unfold rdFns; rw [if_pos (h.resolve_left (by omega))]
theorem rdFns_go {n : Nat} {acc : List Fn} {s : RS} (h0 : 0 < n) (h : s.2 = false) : rdFns n acc s = rdFns (n - 1) (acc ++ [(rdFn s).1]) (rdFn s).2 := by
  cases n with
  | zero => omega
  | succ n => rw [rdFns, if_neg (by rw [h]; decide)]; rfl
def rsOk (s : RS) : Prop := ∀ x ∈ s.1, isB x
theorem rdTake_len (n : Nat) (s : RS) : (rdTake n s).1.length = n := by
  unfold rdTake
  split
  · simp
  · rename_i h; simp only [not_or, Nat.not_lt] at h
    rw [List.length_take]; omega
theorem rdTake_isB (n : Nat) {s : RS} (h : rsOk s) : ∀ x ∈ (rdTake n s).1, isB x := by
  unfold rdTake
  split
  · intro x hx
    rw [List.eq_of_mem_replicate hx]; exact ⟨by decide, by decide⟩
  · exact fun x hx => h x (List.mem_of_mem_take hx)
theorem rdTake_ok (n : Nat) {s : RS} (h : rsOk s) : rsOk (rdTake n s).2 := by
  unfold rdTake
  split
  · exact h
  · exact fun x hx => h x (List.mem_of_mem_drop hx)
theorem rdInt_ok {s : RS} (h : rsOk s) : rsOk (rdInt s).2 := rdTake_ok 1 h
theorem rdInt_bd {s : RS} (h : rsOk s) : 0 ≤ (rdInt s).1 ∧ (rdInt s).1 < 256 := isB_at (rdTake_isB 1 h) 0 (by rw [rdTake_len]; decide)
theorem rdInst_ok {s : RS} (h : rsOk s) : rsOk (rdInst s).2 := rdTake_ok 8 h
theorem rdCode_ok : ∀ (n : Nat) (acc : List Inst) {s : RS}, rsOk s → rsOk (rdCode n acc s).2
  | 0, _, _, h => h
  | n + 1, acc, s, h => by
    unfold rdCode
    split
    · exact h
    · exact rdCode_ok n _ (rdInst_ok h)
theorem rdFn_ok {s : RS} (h : rsOk s) : rsOk (rdFn s).2 := rdCode_ok _ _ (rdInt_ok (rdInt_ok h))
theorem rdCode_len : ∀ (n : Nat) (acc : List Inst) (s : RS), (rdCode n acc s).1.length ≤ acc.length + n
  | 0, acc, s => by simp [rdCode]
  | n + 1, acc, s => by
    unfold rdCode
    split
    · simp only; omega
    · have := rdCode_len n (acc ++ [(rdInst s).1]) (rdInst s).2
      simp only [List.length_append, List.length_singleton] at this
      omega
def hdr (bs : List Int) : Bool × RS := ((rdInt (bs, false)).1 == 88 && (rdInt (rdInt (bs, false)).2).1 == 86, if (rdInt (bs, false)).1 = 88 then (rdInt (rdInt (bs, false)).2).2 else (rdInt (bs, false)).2)
/-- The program of bytes, and the error. -/
def progGet (bs : List Int) : List Fn × Int :=
  let n := rdInt (hdr bs).2
  let r := if (hdr bs).1 then rdFns n.1.toNat [] n.2 else ([], n.2)
  if (hdr bs).1 && !r.2.2 && r.2.1.isEmpty && progMay r.1 then (r.1, 0) else ([], 7)
theorem get_no {bs : List Int} (h : (hdr bs).1 = false) : progGet bs = ([], 7) := by
  simp [progGet, h]
theorem get_end {bs : List Int} {acc : List Fn} {q : RS} (h : (hdr bs).1 = true) (hr : rdFns (rdInt (hdr bs).2).1.toNat [] (rdInt (hdr bs).2).2 = (acc, q)) :
    progGet bs = if !q.2 && q.1.isEmpty && progMay acc then (acc, 0) else ([], 7) := by
  simp [progGet, h, hr]
theorem hdr_no {bs : List Int} (h : ((rdInt (bs, false)).1 == 88) = false) : hdr bs = (false, (rdInt (bs, false)).2) := by
  have h1 : ¬ (rdInt (bs, false)).1 = 88 := by simpa using h
  unfold hdr
  rw [if_neg h1, h]; rfl
theorem hdr_one {bs : List Int} (h : ((rdInt (bs, false)).1 == 88) = true) : hdr bs = ((rdInt (rdInt (bs, false)).2).1 == 86, (rdInt (rdInt (bs, false)).2).2) := by
  have h1 : (rdInt (bs, false)).1 = 88 := by simpa using h
  unfold hdr
  rw [if_pos h1, h]; rfl
theorem kFn_nil (w : World) : kFn.C w none ([] : List Fn).length [] := Kd.C_nil _ _
end Go.Proofs.Ytfknhbgghpbkpaa
