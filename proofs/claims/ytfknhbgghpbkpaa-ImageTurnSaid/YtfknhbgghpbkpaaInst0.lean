/- What inst.May comes to, as a plain function; the table of rules. -/
import Derived.Test.YtfknhbgghpbkpaaBase
namespace Go.Proofs.Ytfknhbgghpbkpaa
open Go.RowKit Cal
def inB (n h : Int) : Bool := decide (0 ≤ n) && decide (n < h)
theorem inB_t {n h : Int} (e : inB n h = true) : 0 ≤ n ∧ n < h := by simpa [inB] using e
def rulesV : Array Value := #[.int .i64 11, .bool true, .bool true, .int .i64 0, .bool true, .int .i64 5, .bool true, .bool true, .int .i64 65535, .bool true, .int .i64 1, .bool true, .bool true, .int .i64 0, .bool true, .int .i64 1, .bool true, .bool true, .int .i64 0, .bool true, .int .i64 1, .bool true, .bool true, .int .i64 0, .bool true, .int .i64 1, .bool false, .bool false, .int .i64 0, .bool true, .int .i64 1, .bool false, .bool false, .int .i64 0, .bool true, .int .i64 1, .bool false, .bool false, .int .i64 0, .bool false]
def zerosV : Array Value := #[.int .i64 0, .bool false, .bool false, .int .i64 0, .bool false, .int .i64 0, .bool false, .bool false, .int .i64 0, .bool false, .int .i64 0, .bool false, .bool false, .int .i64 0, .bool false, .int .i64 0, .bool false, .bool false, .int .i64 0, .bool false, .int .i64 0, .bool false, .bool false, .int .i64 0, .bool false, .int .i64 0, .bool false, .bool false, .int .i64 0, .bool false, .int .i64 0, .bool false, .bool false, .int .i64 0, .bool false, .int .i64 0, .bool false, .bool false, .int .i64 0, .bool false]
def rFns (op : Int) : Int := if op = 0 then 11 else if op = 1 then 5 else 1
def rDst (op : Int) : Bool := decide (op < 5)
def rOff (op : Int) : Int := if op = 1 then 65535 else 0
def rImm (op : Int) : Bool := decide (op < 7)
theorem rOff_bd (op : Int) : 0 ≤ rOff op ∧ rOff op ≤ 65535 := by unfold rOff; split <;> omega
theorem idx_rules0 (w : World) : (Instr.index 209 (.agg rulesV) (.int .i64 0)).run Try.prog w = .ok (.agg #[.int .i64 (rFns 0), .bool (rDst 0), .bool (rDst 0), .int .i64 (rOff 0), .bool (rImm 0)]) w := by kernel_rfl
theorem idx_rules1 (w : World) : (Instr.index 209 (.agg rulesV) (.int .i64 1)).run Try.prog w = .ok (.agg #[.int .i64 (rFns 1), .bool (rDst 1), .bool (rDst 1), .int .i64 (rOff 1), .bool (rImm 1)]) w := by kernel_rfl
theorem idx_rules2 (w : World) : (Instr.index 209 (.agg rulesV) (.int .i64 2)).run Try.prog w = .ok (.agg #[.int .i64 (rFns 2), .bool (rDst 2), .bool (rDst 2), .int .i64 (rOff 2), .bool (rImm 2)]) w := by kernel_rfl
theorem idx_rules3 (w : World) : (Instr.index 209 (.agg rulesV) (.int .i64 3)).run Try.prog w = .ok (.agg #[.int .i64 (rFns 3), .bool (rDst 3), .bool (rDst 3), .int .i64 (rOff 3), .bool (rImm 3)]) w := by kernel_rfl
theorem idx_rules4 (w : World) : (Instr.index 209 (.agg rulesV) (.int .i64 4)).run Try.prog w = .ok (.agg #[.int .i64 (rFns 4), .bool (rDst 4), .bool (rDst 4), .int .i64 (rOff 4), .bool (rImm 4)]) w := by kernel_rfl
theorem idx_rules5 (w : World) : (Instr.index 209 (.agg rulesV) (.int .i64 5)).run Try.prog w = .ok (.agg #[.int .i64 (rFns 5), .bool (rDst 5), .bool (rDst 5), .int .i64 (rOff 5), .bool (rImm 5)]) w := by kernel_rfl
theorem idx_rules6 (w : World) : (Instr.index 209 (.agg rulesV) (.int .i64 6)).run Try.prog w = .ok (.agg #[.int .i64 (rFns 6), .bool (rDst 6), .bool (rDst 6), .int .i64 (rOff 6), .bool (rImm 6)]) w := by kernel_rfl
theorem idx_rules7 (w : World) : (Instr.index 209 (.agg rulesV) (.int .i64 7)).run Try.prog w = .ok (.agg #[.int .i64 (rFns 7), .bool (rDst 7), .bool (rDst 7), .int .i64 (rOff 7), .bool (rImm 7)]) w := by kernel_rfl
theorem idx_rules (op : Int) (h : inB op 8 = true) (w : World) : (Instr.index 209 (.agg rulesV) (.int .i64 op)).run Try.prog w = .ok (.agg #[.int .i64 (rFns op), .bool (rDst op), .bool (rDst op), .int .i64 (rOff op), .bool (rImm op)]) w := by
  have h := inB_t h
  have : op = 0 ∨ op = 1 ∨ op = 2 ∨ op = 3 ∨ op = 4 ∨ op = 5 ∨ op = 6 ∨ op = 7 := by omega
  rcases this with rfl | rfl | rfl | rfl | rfl | rfl | rfl | rfl
  · exact idx_rules0 w
  · exact idx_rules1 w
  · exact idx_rules2 w
  · exact idx_rules3 w
  · exact idx_rules4 w
  · exact idx_rules5 w
  · exact idx_rules6 w
  · exact idx_rules7 w
/-- May an instruction be? -/
def nop (i : Inst) : Bool := i.op == 1 && i.fn == 0
def instMay (i : Inst) : Bool :=
  inB i.op 8 && inB i.dst 8 && inB i.src 8 && inB i.fn (rFns i.op) && inB i.off (rOff i.op + 1) && ((rDst i.op && !nop i) || i.dst == 0) && ((rDst i.op && !nop i) || !i.reg) && ((rImm i.op && !nop i) || i.imm == 0) &&
    (if i.reg then i.imm == 0 else i.src == 0)
def fnMay (f : Fn) : Bool := decide (0 ≤ f.args) && decide (f.args ≤ 4) && decide (0 < f.code.length) && decide (f.code.length ≤ 64) && f.code.all instMay
def progMay (p : List Fn) : Bool := decide (0 < p.length) && decide (p.length ≤ 8) && (p.getD 0 Fn.z).args == 0 && p.all fnMay
theorem not_any_not {α : Type} (p : α → Bool) (l : List α) : (!(l.any fun x => !p x)) = l.all p := by
  rw [Bool.eq_iff_iff]; simp
end Go.Proofs.Ytfknhbgghpbkpaa
