/- Numbers that the code reckons, within their kinds; rows of bytes and of instructions. -/
import Derived.Test.YtfknhbgghpbkpaaOwn
import Derived.Test.YtfknhbgghpbkpaaInst0
namespace Go.Proofs.Ytfknhbgghpbkpaa
open Go.RowKit Cal Go.Proofs.YtfknhbgghpbkpaaW.PrintWords
namespace Cal
theorem tc_sub {dm : List Deferred} {P : Program} {N : Nat} {Q : Exit → Act → World → Prop} {k : List It} {fr fr' : Fr} {w : World} {c : Code} (hs : Sub fr' fr) (h : TC dm P N Q c k fr' w) : TC dm P N Q c k fr w := fun _ a ha => h _ a (hs.on ha)
theorem wr8 (x : Int) : IntKind.wrap .u8 x = x % 256 := by
  unfold IntKind.wrap
  simp [IntKind.signed, IntKind.bits]
theorem wr32 (x : Int) : IntKind.wrap .u32 x = x % 4294967296 := by
  unfold IntKind.wrap
  simp [IntKind.signed, IntKind.bits]
theorem quo_pos {x c : Int} (h0 : 0 ≤ x) (h1 : x ≤ 9223372036854775807) (hc : 0 < c) : IntKind.wrap .i64 (Int.tdiv x c) = x / c := by
  rw [Int.tdiv_eq_ediv_of_nonneg h0]
  have h2 : 0 ≤ x / c := Int.ediv_nonneg h0 (Int.le_of_lt hc)
  have h3 : x / c ≤ x := Int.ediv_le_self _ h0
  exact wr_i64 (by omega) (by omega)
end Cal
def kB : Kd Int := Kd.int .u8
def encB (xs : List Int) : List Value := xs.map (Value.int .u8)
theorem repB (xs : List Int) : Reps (fun x c => ∀ w' ok, kB.M w' 0 ok x c) kB.sz xs (encB xs) := by
  refine ⟨by simp [encB, kB, Kd.int, Kd.scalar], fun j p hj => ?_⟩
  intro _ _
  show ((encB xs).drop (j * 1)).take 1 = [Value.int .u8 p]
  rw [Nat.mul_one]
  apply List.ext_getElem?
  intro q
  rw [List.getElem?_take, List.getElem?_drop]
  match q with
  | 0 => simp [encB, hj]
  | q + 1 => simp
theorem flatB : Flat kB := fun _ _ _ h _ _ => h
theorem flatInst : Flat kInst := fun _ _ _ h _ _ => h
theorem kInst_M (x : Inst) (w : World) (ok : Nat → Prop) : kInst.M w 0 ok x x.cs.toList :=
  ⟨[_], _, rfl, rfl, ⟨[_], _, rfl, rfl, ⟨[_], _, rfl, rfl, ⟨[_], _, rfl, rfl, ⟨[_], _, rfl, rfl, ⟨[_], _, rfl, rfl, rfl⟩⟩⟩⟩⟩⟩
theorem kB_open {w : World} {x : Int} {cs : List Value} (h : kB.K w x cs) : cs = [.int .u8 x] := h
theorem kFn_M {x : Fn} {v : Value} {wr w : World} {L : List Ent} (M : Mem wr w (row kInst 65 v x.code :: L)) : Mem wr w (owns kFn 0 x [.int .i64 x.args, v] :: L) :=
  M.imp fun S _ h => ⟨[_], [v], rfl, rfl, v, rfl, h⟩
/-- What may be, in numbers. -/
theorem may_bd {x : Inst} (h : instMay x = true) : (0 ≤ x.op ∧ x.op < 8) ∧ (0 ≤ x.fn ∧ x.fn < 11) ∧ (0 ≤ x.dst ∧ x.dst < 8) ∧ (0 ≤ x.src ∧ x.src < 8) ∧ (0 ≤ x.off ∧ x.off ≤ 65535) := by
  have hr := rOff_bd x.op
  have hf : rFns x.op ≤ 11 := by unfold rFns; split <;> first | omega | (split <;> omega)
  simp only [instMay, inB, Bool.and_eq_true, decide_eq_true_eq] at h
  omega
/-- An instruction's bytes. -/
def instBytes (x : Inst) : List Int := [16 * x.op + x.fn, 8 * x.dst + x.src + (if x.reg then 128 else 0), x.off / 256, x.off % 256, x.imm / 16777216 % 256, x.imm / 65536 % 256, x.imm / 256 % 256, x.imm % 256]
end Go.Proofs.Ytfknhbgghpbkpaa
