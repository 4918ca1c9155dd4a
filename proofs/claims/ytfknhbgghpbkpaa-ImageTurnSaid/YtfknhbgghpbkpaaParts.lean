/- What prog.put is handed; the bytes of functions and programs. -/
import Derived.Test.YtfknhbgghpbkpaaInst2
namespace Go.Proofs.Ytfknhbgghpbkpaa
open Go.RowKit Cal Go.Proofs.YtfknhbgghpbkpaaW.PrintWords
inductive Part
  | int (n : Int)
  | rune (n : Int)
  | inst (x : Inst)
  | fn (a : Int) (A : Option Addr) (n c : Nat)
def Part.z : Part := .int 0
def Part.v : Part → Value
  | .int n => .iface 3 (.int .i64 n)
  | .rune n => .iface 21 (.int .i32 n)
  | .inst x => .iface 65 (.agg x.cs)
  | .fn a A n c => .iface 57 (.agg #[.int .i64 a, .slice A n c])
def kPart : Kd Part := Kd.scalar Part.v (fun p => by cases p <;> rfl)
theorem flatPart : Flat kPart := fun _ _ _ h _ _ => h
theorem kPart_open {w : World} {x : Part} {cs : List Value} (h : kPart.K w x cs) : cs = [x.v] := h
theorem repPart (xs : List Part) : Reps (fun x c => ∀ w' ok, kPart.M w' 0 ok x c) kPart.sz xs (xs.map Part.v) := by
  refine ⟨by simp [kPart, Kd.scalar], fun j p hj => ?_⟩
  intro _ _
  show ((xs.map Part.v).drop (j * 1)).take 1 = [p.v]
  rw [Nat.mul_one]
  apply List.ext_getElem?
  intro q
  rw [List.getElem?_take, List.getElem?_drop]
  match q with
  | 0 => simp [hj]
  | q + 1 => simp
def Part.bytes : Part → List Int
  | .int n => [n % 256]
  | .rune n => [n % 256]
  | .inst x => instBytes x
  | .fn .. => []
def Part.leaf : Part → Prop
  | .inst x => instMay x = true
  | .fn .. => False
  | _ => True
theorem fm_step {α β : Type} (f : α → List β) (ps : List α) (z : α) (k : Nat) (hk : k < ps.length) : (ps.take (k + 1)).flatMap f = (ps.take k).flatMap f ++ f (ps.getD k z) := by
  have h : ps.getD k z = ps[k] := by simp [hk]
  rw [h, List.take_succ_eq_append_getElem hk, List.flatMap_append]
  simp
theorem fm_len {α β : Type} {f : α → List β} {B : Nat} : ∀ {l : List α}, (∀ x ∈ l, (f x).length ≤ B) → (l.flatMap f).length ≤ l.length * B
  | [], _ => by simp
  | x :: l, h => by
    have h1 := h x (by simp)
    have h2 := fm_len (l := l) (fun y hy => h y (by simp [hy]))
    rw [List.flatMap_cons, List.length_append, List.length_cons, Nat.add_mul]
    omega
theorem leaf_at {ps : List Part} (h : ∀ p ∈ ps, p.leaf) {k : Nat} (hk : k < ps.length) : (ps.getD k Part.z).leaf := by
  have e : ps.getD k Part.z = ps[k] := by simp [hk]
  rw [e]
  exact h _ (List.getElem_mem hk)
theorem instBytes_len (x : Inst) : (instBytes x).length = 8 := rfl
theorem leaf_len (p : Part) : p.bytes.length ≤ 8 := by cases p <;> simp [Part.bytes, instBytes]
theorem take_len {α β : Type} {f : α → List β} {B : Nat} {l : List α} (k : Nat) (h : ∀ x ∈ l, (f x).length ≤ B) : ((l.take k).flatMap f).length ≤ k * B := by
  have h1 := fm_len (l := l.take k) (fun x hx => h x (List.mem_of_mem_take hx))
  have h2 : (l.take k).length * B ≤ k * B := Nat.mul_le_mul_right _ (by rw [List.length_take]; omega)
  omega
def fnBytes (f : Fn) : List Int := [f.args % 256, (f.code.length : Int) % 256] ++ f.code.flatMap instBytes
def progBytes (p : List Fn) : List Int := [88, 86, (p.length : Int) % 256] ++ p.flatMap fnBytes
theorem fnMay_bd {f : Fn} (h : fnMay f = true) : 0 ≤ f.args ∧ f.args ≤ 4 ∧ 0 < f.code.length ∧ f.code.length ≤ 64 ∧ ∀ x ∈ f.code, instMay x = true := by
  simp only [fnMay, Bool.and_eq_true, decide_eq_true_eq, List.all_eq_true] at h
  exact ⟨h.1.1.1.1, h.1.1.1.2, h.1.1.2, h.1.2, h.2⟩
theorem progMay_bd {p : List Fn} (h : progMay p = true) : 0 < p.length ∧ p.length ≤ 8 ∧ (p.getD 0 Fn.z).args = 0 ∧ ∀ f ∈ p, fnMay f = true := by
  simp only [progMay, Bool.and_eq_true, decide_eq_true_eq, List.all_eq_true, beq_iff_eq] at h
  exact ⟨h.1.1.1, h.1.1.2, h.1.2, h.2⟩
theorem fnBytes_len {f : Fn} (h : fnMay f = true) : (fnBytes f).length ≤ 514 := by
  have hb := fnMay_bd h
  have := fm_len (f := instBytes) (B := 8) (l := f.code) (fun _ _ => by simp [instBytes])
  simp only [fnBytes, List.length_append, List.length_cons, List.length_nil]
  omega
theorem at_mem {α : Type} {l : List α} {k : Nat} (z : α) (hk : k < l.length) : l.getD k z ∈ l := by
  have e : l.getD k z = l[k] := by simp [hk]
  rw [e]; exact List.getElem_mem hk
end Go.Proofs.Ytfknhbgghpbkpaa
