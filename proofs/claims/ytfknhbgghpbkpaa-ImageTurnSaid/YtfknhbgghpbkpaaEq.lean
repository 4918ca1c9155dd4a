/- Two instructions are the same. -/
import Derived.Test.YtfknhbgghpbkpaaRd
namespace Go.Proofs.Ytfknhbgghpbkpaa
open Go.RowKit Cal Go.Proofs.YtfknhbgghpbkpaaW.PrintWords
theorem part_one {P : Program} {w : World} {t : TypeId} {xs : Array Value} {n : Nat} {v : Value} (h : (isAgg t).run P w = .ok false w) (hv : xs[n]? = some v) : (part t xs n).run P w = .ok v w := by
  simp [part, Sem.run_bind, h, hv]
theorem eqF_int {P : Program} {w : World} {d : Nat} {xs ys : Array Value} {f : Field} {fs : List Field} {k k' : IntKind} {a b : Int} (hn : f.name ≠ "_") (hg : (isAgg f.type).run P w = .ok false w) (hx : xs[f.offset]? = some (.int k a)) (hy : ys[f.offset]? = some (.int k b)) (ht : P.underlying f.type = some (.int k')) :
    (Op.eqFields (d + 1) xs ys (f :: fs)).run P w = if a = b then (Op.eqFields (d + 1) xs ys fs).run P w else .ok false w := by
  simp only [Op.eqFields, Sem.run_bind, Sem.run_ite, if_pos hn, part_one hg hx, part_one hg hy, Result.andThen_ok, run_equalIn_int w d f.type k k' a b ht]
  by_cases h : a = b <;> simp [h]
theorem eqF_bool {P : Program} {w : World} {d : Nat} {xs ys : Array Value} {f : Field} {fs : List Field} {a b : Bool} (hn : f.name ≠ "_") (hg : (isAgg f.type).run P w = .ok false w) (hx : xs[f.offset]? = some (.bool a)) (hy : ys[f.offset]? = some (.bool b)) (ht : P.underlying f.type = some .bool) :
    (Op.eqFields (d + 1) xs ys (f :: fs)).run P w = if a = b then (Op.eqFields (d + 1) xs ys fs).run P w else .ok false w := by
  simp only [Op.eqFields, Sem.run_bind, Sem.run_ite, if_pos hn, part_one hg hx, part_one hg hy, Result.andThen_ok, run_equalIn_bool' w d f.type a b ht]
  by_cases h : a = b <;> simp [h]
theorem eqIn_inst (x y : Inst) (w : World) : (Op.equalIn 10000 65 (.agg x.cs) (.agg y.cs)).run Try.prog w = .ok (decide (x = y)) w := by
  rw [show (10000 : Nat) = 9999 + 1 from rfl, run_equalIn_agg w 9999 65 x.cs y.cs (by kernel_rfl) (by kernel_rfl)]
  simp only [Program.fieldsOf, Try.underlying65]
  rw [show (9999 : Nat) = 9998 + 1 from rfl]
  rw [eqF_int (k := .i64) (k' := .i64) (a := x.op) (b := y.op) (by decide) (by kernel_rfl) rfl rfl (by kernel_rfl),
    eqF_int (k := .i64) (k' := .i64) (a := x.fn) (b := y.fn) (by decide) (by kernel_rfl) rfl rfl (by kernel_rfl),
    eqF_int (k := .i64) (k' := .i64) (a := x.dst) (b := y.dst) (by decide) (by kernel_rfl) rfl rfl (by kernel_rfl),
    eqF_int (k := .i64) (k' := .i64) (a := x.src) (b := y.src) (by decide) (by kernel_rfl) rfl rfl (by kernel_rfl),
    eqF_bool (a := x.reg) (b := y.reg) (by decide) (by kernel_rfl) rfl rfl (by kernel_rfl),
    eqF_int (k := .i64) (k' := .i64) (a := x.off) (b := y.off) (by decide) (by kernel_rfl) rfl rfl (by kernel_rfl),
    eqF_int (k := .u32) (k' := .u32) (a := x.imm) (b := y.imm) (by decide) (by kernel_rfl) rfl rfl (by kernel_rfl)]
  have hxy : (x = y) ↔ (x.op = y.op ∧ x.fn = y.fn ∧ x.dst = y.dst ∧ x.src = y.src ∧ x.reg = y.reg ∧ x.off = y.off ∧ x.imm = y.imm) := by
    cases x; cases y; simp
  have hnil : (Op.eqFields (9998 + 1) x.cs y.cs []).run Try.prog w = .ok true w := by simp [Op.eqFields]
  rw [hnil]
  by_cases h : x = y
  · have h' := hxy.1 h
    simp only [h, decide_true, if_true]
  · simp only [h, decide_false]
    rw [hxy] at h
    split <;> try rfl
    split <;> try rfl
    split <;> try rfl
    split <;> try rfl
    split <;> try rfl
    split <;> try rfl
    split <;> try rfl
    rename_i h1 h2 h3 h4 h5 h6 h7
    exact absurd ⟨h1, h2, h3, h4, h5, h6, h7⟩ h
theorem neq_inst (x y : Inst) (w : World) : (binOp .neq 65 (.agg x.cs) (.agg y.cs)).run Try.prog w = .ok (.bool (!decide (x = y))) w := by
  rw [run_neq_struct, eqIn_inst]; rfl
theorem eql_inst (x y : Inst) (w : World) : (binOp .eql 65 (.agg x.cs) (.agg y.cs)).run Try.prog w = .ok (.bool (decide (x = y))) w := by
  rw [run_eql_struct, eqIn_inst]; rfl
namespace Cal
section
variable {dm : List Deferred} {P : Program} {N : Nat} {fr : Fr} {w : World}
/-- A comparison by its run. -/
theorem rq {o : Oper} {j : Nat → Value} {op : BinOp} {T : TypeId} {xs ys : Array Value} {v : Value} (hr : (binOp op T (.agg xs) (.agg ys)).run P w = .ok v w) (hm : P.eqGuardType P.depth T = false) {x y : Operand} {yt : TypeId}
    (hop : o.op = .binOp op T x y yt := by rfl) (hx : ev j fr x = .agg xs := by rfl) (hy : ev j fr y = .agg ys := by rfl) : (execOp (ev j fr) o).run P w = .ok (.value v) w := by
  unfold execOp
  simp only [hop, hx, hy, Sem.run_bind, run_eqGuard_agg w op T x y xs ys hm, hr, Result.andThen_ok, Sem.run_pure]
theorem to_rq {Q : Exit → Act → World → Prop} {k : List It} {all : Array Oper} {i : Nat} {o : Oper} (d : Nat) (v : Value) (hr : ∀ j, (execOp (ev j fr) o).run P w = .ok (.value v) w) (h : TO dm P N Q all k ((d, v) :: fr) w (i + 1))
    (ho : all.toList[i]? = some o := by rfl) (hd : o.dst = some d := by rfl) (hw : ∀ j, Region.wanted o (yl N all j fr) = true := by intro j; rfl) (hN : Nat.blt d N = true := by rfl) : TO dm P N Q all k fr w i :=
  to_op ho hw hr (by unfold put1; rw [hd]; simp only [hN, cond_true]) h
end
end Cal
end Go.Proofs.Ytfknhbgghpbkpaa
