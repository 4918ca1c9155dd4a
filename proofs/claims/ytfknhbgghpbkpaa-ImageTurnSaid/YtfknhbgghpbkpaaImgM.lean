/- Several texts in one. -/
import Derived.Test.YtfknhbgghpbkpaaIsaM
import Derived.MapKept
import Derived.Test.YtfknhbgghpbkpaaAr0
import Derived.Test.YtfknhbgghpbkpaaAr4
/- A map of one's own, as an object: made, filled, looked up. -/
namespace Go.Proofs.Ytfknhbgghpbkpaa
open Go.RowKit Cal Go.Proofs.YtfknhbgghpbkpaaW.PrintWords
namespace Cal
def objE (r : Nat) (o : Obj) : Ent where
  H S w := S r ∧ w.heap[r]? = some o
  mono h := fun ⟨h1, h2⟩ => ⟨h r h1, h2⟩
  move h := fun ⟨h1, h2⟩ => ⟨h1, (h r h1 (Array.getElem?_eq_some_iff.1 h2).1).trans h2⟩
theorem Mem.newE {wr w : World} {L : List Ent} (M : Mem wr w L) (o : Obj) : Mem wr (w.alloc o) (objE w.heap.size o :: L) :=
  M.add ((Below.refl _ w).alloc (Nat.le_refl _) o) (fun k => k = w.heap.size) (fun k hk => by subst hk; exact ⟨Nat.le_refl _, by simp⟩) ⟨rfl, by show (w.heap.push o)[w.heap.size]? = some o; simp⟩
theorem Mem.obj_at {wr w : World} {L : List Ent} (M : Mem wr w L) (p : Nat) {r : Nat} {o : Obj} (hp : L[p]? = some (objE r o)) : w.heap[r]? = some o := by
  obtain ⟨S, _, he⟩ := M.get p hp
  exact he.2
theorem Mem.setE {wr w : World} {L : List Ent} (M : Mem wr w L) (p : Nat) {r : Nat} {o : Obj} (o' : Obj) (hp : L[p]? = some (objE r o)) : Mem wr { w with heap := w.heap.setIfInBounds r o' } (L.set p (objE r o')) :=
  M.upd p hp (by simp) rfl rfl rfl fun S hS he => ⟨S, fun k hk => .inl hk, ⟨he.1, (MapKept.heap_set he.2).1⟩, fun k hk hn => (MapKept.heap_set he.2).2 k (fun e => hn (by subst e; exact he.1))⟩
section
variable {P : Program} {N : Nat} {dm : List Deferred} {Q : Exit → Act → World → Prop} {k : List It} {fr : Fr} {wr w : World} {L : List Ent}
theorem to_mm {all : Array Oper} {i : Nat} {o : Oper} (M : Mem wr w L) (d : Nat) (h : ∀ r w', Mem wr w' (objE r (.map #[] 0) :: L) → TO dm P N Q all k ((d, .map (some r)) :: fr) w' (i + 1)) {T : TypeId}
    (ho : all.toList[i]? = some o := by rfl) (hd : o.dst = some d := by rfl) (hop : o.op = .makeMap T none := by rfl) (hw : ∀ j, Region.wanted o (yl N all j fr) = true := by intro j; rfl) (hN : Nat.blt d N = true := by rfl) : TO dm P N Q all k fr w i := by
  refine to_op ho hw (v := .map (some w.heap.size)) (w' := w.alloc (.map #[] 0)) (fun j => ?_) (by unfold put1; rw [hd]; simp only [hN, cond_true]) (h _ _ (M.newE _))
  have hr : (Instr.makeMap T none).run P w = .ok (.map (some w.heap.size)) (w.alloc (.map #[] 0)) := rfl
  unfold execOp
  simp only [hop, Option.map_none, Sem.run_bind, hr, Result.andThen_ok, Sem.run_pure]
/-- An entry whose key is not there yet. -/
theorem to_ins {all : Array Oper} {i : Nat} {o : Oper} (M : Mem wr w L) (p : Nat) {r : Nat} {es : Array MapEntry} {clock : Nat} {kt et : TypeId} {kk : IntKind} {key : Int} {V : Value} {T : TypeId} (hm : P.underlying T = some (.map kt et)) (hk : P.underlying kt = some (.int kk)) (hf : Instr.findNow (.int kk) (.int kk key) es.toList 0 = some none)
    (h : ∀ w', Mem wr w' (L.set p (objE r (.map (es.push { key := .int kk key, val := V, born := clock }) (clock + 1)))) → TO dm P N Q all k fr w' (i + 1)) {m x y : Operand}
    (ho : all.toList[i]? = some o := by rfl) (hd : o.dst = none := by rfl) (hop : o.op = .insert T m x y := by rfl) (hw : ∀ j, Region.wanted o (yl N all j fr) = true := by intro j; rfl)
    (h1 : ∀ j, ev j fr m = .map (some r) := by intro j; rfl) (h2 : ∀ j, ev j fr x = .int kk key := by intro j; rfl) (h3 : ∀ j, ev j fr y = V := by intro j; rfl) (hp : L[p]? = some (objE r (.map es clock)) := by rfl) : TO dm P N Q all k fr w i := by
  have hb := M.obj_at p hp
  have hc : (Instr.checkKey false 10000 kt (.int kk key)).run P w = .ok () w := MapKept.run_checkKey (k := .int kk key) hk (by simp [MapKept.IsKey]) false 9999
  have hr : (Instr.mapUpdate T (.map (some r)) (.int kk key) V).run P w = .ok () { w with heap := w.heap.setIfInBounds r (.map (es.push { key := .int kk key, val := V, born := clock }) (clock + 1)) } := by
    simp [Instr.mapUpdate, run_underlying hm, MapKept.run_getObj_map hb, hc, MapKept.run_findKey hk hf, MapKept.run_setObj_map _ hb, Result.andThen]
  refine to_op_skip ho hw (fun j => ?_) hd (h _ (M.setE p _ hp))
  unfold execOp
  simp only [hop, h1 j, h2 j, h3 j, Sem.run_bind, hr, Result.andThen_ok, Sem.run_pure]
/-- A look up, with whether it is there. -/
theorem to_lk {all : Array Oper} {i : Nat} {o : Oper} (M : Mem wr w L) (p d : Nat) {r : Nat} {es : Array MapEntry} {clock : Nat} {kt et : TypeId} {kk : IntKind} {key : Int} {T : TypeId} (a : Option (Nat × Value)) (Z : Value) (hm : P.underlying T = some (.map kt et)) (hk : P.underlying kt = some (.int kk)) (hf : Instr.findNow (.int kk) (.int kk key) es.toList 0 = some a) (hZ : (zeroValue et).run P w = .ok Z w)
    (h : TO dm P N Q all k ((d, .tuple #[(a.elim Z fun q => q.2), .bool a.isSome]) :: fr) w (i + 1)) {m x : Operand}
    (ho : all.toList[i]? = some o := by rfl) (hd : o.dst = some d := by rfl) (hop : o.op = .lookup T m x true := by rfl) (hw : ∀ j, Region.wanted o (yl N all j fr) = true := by intro j; rfl)
    (h1 : ∀ j, ev j fr m = .map (some r) := by intro j; rfl) (h2 : ∀ j, ev j fr x = .int kk key := by intro j; rfl) (hp : L[p]? = some (objE r (.map es clock)) := by rfl) (hN : Nat.blt d N = true := by rfl) : TO dm P N Q all k fr w i := by
  have hb := M.obj_at p hp
  have hc : (Instr.checkKey es.isEmpty 10000 kt (.int kk key)).run P w = .ok () w := MapKept.run_checkKey (k := .int kk key) hk (by simp [MapKept.IsKey]) _ 9999
  have hr : (Instr.lookup T (.map (some r)) (.int kk key) true).run P w = .ok (.tuple #[(a.elim Z fun q => q.2), .bool a.isSome]) w := by
    cases a with
    | none => simp [Instr.lookup, run_underlying hm, MapKept.run_getObj_map hb, hc, MapKept.run_findKey hk hf, hZ, Result.andThen]
    | some q => simp [Instr.lookup, run_underlying hm, MapKept.run_getObj_map hb, hc, MapKept.run_findKey hk hf, Result.andThen]
  refine to_op ho hw (v := .tuple #[(a.elim Z fun q => q.2), .bool a.isSome]) (w' := w) (fun j => ?_) (by unfold put1; rw [hd]; simp only [hN, cond_true]) h
  unfold execOp
  simp only [hop, h1 j, h2 j, Sem.run_bind, hr, Result.andThen_ok, Sem.run_pure]
end
end Cal
end Go.Proofs.Ytfknhbgghpbkpaa

/- Layer 14: where jumps and calls go; doors. -/
namespace Go.Proofs.Ytfknhbgghpbkpaa
open Go.RowKit Cal Go.Proofs.YtfknhbgghpbkpaaW.PrintWords
def doorW (a : Int) : Int := (putW ⟨1, 0, 0, 0, false, 0, 0⟩ a).1

theorem jump_to (k : Nat) (x : Inst) (bA bB : Nat) (att : Int) (A : Option Addr) (n c : Nat) (w : World) (h1 : w.heap[bA]? = some (.cells #[.int .i64 att] 3 (0, 0))) (h2 : w.heap[bB]? = some (.cells #[.slice A n c] 55 (0, 0))) (ha : 0 ≤ att ∧ att ≤ 100000) (hk : k ≤ 100000) (ho : 0 ≤ x.off ∧ x.off ≤ 100000) : Calls Try.prog 130 #[.int .i64 (k : Int), .agg x.cs, .pointer (some ⟨bA, 0, none⟩), .pointer (some ⟨bB, 0, none⟩)] w fun e w' => e = .returned (.tuple #[.int .i64 (att + k + x.off + 1), .bool (decide ((k : Int) + x.off + 1 < n))]) ∧ Below w.heap.size w w' := by
  have M := Mem.refl w
  refine calls_tc (N := 23) (args := [.int .i64 (k : Int), .agg x.cs, .pointer (some ⟨bA, 0, none⟩), .pointer (some ⟨bB, 0, none⟩)]) Try.func130 rfl rfl rfl ?_
  refine tc_seq (tc_region ?_)
  refine nw M 5 x.cs 65 fun b1 w2 M3 => ?_
  refine sg 2 [0, 2, 3, 5] [(0, .int .i64 (k : Int)), (2, .pointer (some ⟨bA, 0, none⟩)), (3, .pointer (some ⟨bB, 0, none⟩)), (5, .pointer (some ⟨b1, 0, none⟩))] ?_
  refine to_end rfl (tn_code (tc_seq ?_))
  refine tc_drawL (fun w' => Mem w w' ([blk b1 x.cs 65])) [] (by kernel_rfl) ?_
  have M5 := M3.draw
  refine ty_take 0 8 (.int .i64 att) (pok_cont pok_body) ?_ M5 (fun _ M' _ => re (cell_up M' ((blk_cell h1 0).trans rfl)))
  refine ty_take 1 9 (.int .i64 (k : Int)) (pok_cont pok_body) ?_ M5 (fun _ _ _ => by kernel_rfl)
  refine ty_take 2 10 (.int .i64 (IntKind.wrap .i64 (att + (k : Int)))) (pok_cont pok_body) ?_ M5 (fun _ _ _ => by kernel_rfl)
  rw [wr_i64 (x := att + (k : Int)) (by omega) (by omega)]
  refine ty_take 3 11 (.pointer (some ⟨b1, 5, none⟩)) (pok_cont pok_body) ?_ M5 (fun _ _ _ => by kernel_rfl)
  refine ty_take 4 12 (.int .i64 x.off) (pok_cont pok_body) ?_ M5 (fun _ M' _ => rl M' 0)
  refine ty_take 5 13 (.int .i64 (IntKind.wrap .i64 ((att + (k : Int)) + x.off))) (pok_cont pok_body) ?_ M5 (fun _ _ _ => by kernel_rfl)
  rw [wr_i64 (x := (att + (k : Int)) + x.off) (by omega) (by omega)]
  refine ty_take 6 14 (.int .i64 (IntKind.wrap .i64 (((att + (k : Int)) + x.off) + 1))) (pok_cont pok_body) ?_ M5 (fun _ _ _ => by kernel_rfl)
  rw [wr_i64 (x := ((att + (k : Int)) + x.off) + 1) (by omega) (by omega)]
  refine ty_take 7 15 (.int .i64 (k : Int)) (pok_cont pok_body) ?_ M5 (fun _ _ _ => by kernel_rfl)
  refine ty_take 8 16 (.pointer (some ⟨b1, 5, none⟩)) (pok_cont pok_body) ?_ M5 (fun _ _ _ => by kernel_rfl)
  refine ty_take 9 17 (.int .i64 x.off) (pok_cont pok_body) ?_ M5 (fun _ M' _ => rl M' 0)
  refine ty_take 10 18 (.int .i64 (IntKind.wrap .i64 ((k : Int) + x.off))) (pok_cont pok_body) ?_ M5 (fun _ _ _ => by kernel_rfl)
  rw [wr_i64 (x := (k : Int) + x.off) (by omega) (by omega)]
  refine ty_take 11 19 (.int .i64 (IntKind.wrap .i64 (((k : Int) + x.off) + 1))) (pok_cont pok_body) ?_ M5 (fun _ _ _ => by kernel_rfl)
  rw [wr_i64 (x := ((k : Int) + x.off) + 1) (by omega) (by omega)]
  refine ty_take 12 20 (.slice A n c) (pok_cont pok_body) ?_ M5 (fun _ M' _ => re (cell_up M' ((blk_cell h2 0).trans rfl)))
  refine ty_take 13 21 (.int .i64 (n : Int)) (pok_cont pok_body) ?_ M5 (fun _ _ _ => by kernel_rfl)
  refine ty_take 14 22 (.bool (decide ((((k : Int) + x.off) + 1) < (n : Int)))) (pok_cont pok_body) ?_ M5 (fun _ _ _ => by kernel_rfl)
  refine ty_take 15 6 (.int .i64 (((att + (k : Int)) + x.off) + 1)) (pok_cont pok_body) ?_ M5 (fun _ _ _ => by kernel_rfl)
  refine ty_take 16 7 (.bool (decide ((((k : Int) + x.off) + 1) < (n : Int)))) (pok_cont pok_body) ?_ M5 (fun _ _ _ => by kernel_rfl)
  refine ty_endL ?_
  refine tn_code (tc_ret ?_)
  refine tr_tmp2 rfl rfl rfl ?_
  exact ⟨congrArg Ending.returned (rfl), M5.below⟩

theorem call_to (k : Nat) (x : Inst) (bA bB : Nat) (base : Int) (A : Option Addr) (m c : Nat) (w : World) (h1 : w.heap[bA]? = some (.cells #[.int .i64 base] 3 (0, 0))) (h2 : w.heap[bB]? = some (.cells #[.slice A m c] 45 (0, 0))) (ha : 0 ≤ base ∧ base ≤ 100000) (hm : m ≤ 100000) (ho : 0 ≤ x.imm ∧ x.imm < 4294967296) : Calls Try.prog 131 #[.int .i64 (k : Int), .agg x.cs, .pointer (some ⟨bA, 0, none⟩), .pointer (some ⟨bB, 0, none⟩)] w fun e w' => e = .returned (.tuple #[.int .i64 (base + x.imm), .bool (decide (x.imm < (m : Int)))]) ∧ Below w.heap.size w w' := by
  have M := Mem.refl w
  refine calls_tc (N := 21) (args := [.int .i64 (k : Int), .agg x.cs, .pointer (some ⟨bA, 0, none⟩), .pointer (some ⟨bB, 0, none⟩)]) Try.func131 rfl rfl rfl ?_
  refine tc_seq (tc_region ?_)
  refine nw M 5 x.cs 65 fun b1 w2 M3 => ?_
  refine sg 2 [2, 3, 5] [(2, .pointer (some ⟨bA, 0, none⟩)), (3, .pointer (some ⟨bB, 0, none⟩)), (5, .pointer (some ⟨b1, 0, none⟩))] ?_
  refine to_end rfl (tn_code (tc_seq ?_))
  refine tc_drawL (fun w' => Mem w w' ([blk b1 x.cs 65])) [] (by kernel_rfl) ?_
  have M5 := M3.draw
  refine ty_take 0 8 (.int .i64 base) (pok_cont pok_body) ?_ M5 (fun _ M' _ => re (cell_up M' ((blk_cell h1 0).trans rfl)))
  refine ty_take 1 9 (.pointer (some ⟨b1, 6, none⟩)) (pok_cont pok_body) ?_ M5 (fun _ _ _ => by kernel_rfl)
  refine ty_take 2 10 (.int .u32 x.imm) (pok_cont pok_body) ?_ M5 (fun _ M' _ => rl M' 0)
  refine ty_take 3 11 (.int .i64 (IntKind.wrap .i64 x.imm)) (pok_cont pok_body) ?_ M5 (fun _ _ _ => by kernel_rfl)
  rw [wr_i64 (x := x.imm) (by omega) (by omega)]
  refine ty_take 4 12 (.int .i64 (IntKind.wrap .i64 (base + x.imm))) (pok_cont pok_body) ?_ M5 (fun _ _ _ => by kernel_rfl)
  rw [wr_i64 (x := base + x.imm) (by omega) (by omega)]
  refine ty_take 5 13 (.pointer (some ⟨b1, 6, none⟩)) (pok_cont pok_body) ?_ M5 (fun _ _ _ => by kernel_rfl)
  refine ty_take 6 14 (.int .u32 x.imm) (pok_cont pok_body) ?_ M5 (fun _ M' _ => rl M' 0)
  refine ty_take 7 15 (.int .u64 (IntKind.wrap .u64 x.imm)) (pok_cont pok_body) ?_ M5 (fun _ _ _ => by kernel_rfl)
  rw [wr_u64 (x := x.imm) (by omega) (by omega)]
  refine ty_take 8 16 (.pointer (some ⟨bB, 0, none⟩)) (pok_cont pok_body) ?_ M5 (fun _ _ _ => by kernel_rfl)
  refine ty_take 9 17 (.slice A m c) (pok_cont pok_body) ?_ M5 (fun _ M' _ => re (cell_up M' ((blk_cell h2 0).trans rfl)))
  refine ty_take 10 18 (.int .i64 (m : Int)) (pok_cont pok_body) ?_ M5 (fun _ _ _ => by kernel_rfl)
  refine ty_take 11 19 (.int .u64 (IntKind.wrap .u64 (m : Int))) (pok_cont pok_body) ?_ M5 (fun _ _ _ => by kernel_rfl)
  rw [wr_u64 (x := (m : Int)) (by omega) (by omega)]
  refine ty_take 12 20 (.bool (decide (x.imm < (m : Int)))) (pok_cont pok_body) ?_ M5 (fun _ _ _ => by kernel_rfl)
  refine ty_take 13 6 (.int .i64 (base + x.imm)) (pok_cont pok_body) ?_ M5 (fun _ _ _ => by kernel_rfl)
  refine ty_take 14 7 (.bool (decide (x.imm < (m : Int)))) (pok_cont pok_body) ?_ M5 (fun _ _ _ => by kernel_rfl)
  refine ty_endL ?_
  refine tn_code (tc_ret ?_)
  refine tr_tmp2 rfl rfl rfl ?_
  exact ⟨congrArg Ending.returned (rfl), M5.below⟩

theorem door_any (a : Int) (w : World) : Calls Try.prog 91 #[.int .i64 a] w fun e w' => e = .returned (.int .u64 (putW ⟨1, 0, 0, 0, false, 0, 0⟩ a).1) ∧ Below w.heap.size w w' := by
  have M := Mem.refl w
  refine calls_tc (N := 12) (args := [.int .i64 a]) Try.func91 rfl rfl rfl ?_
  refine tc_seq (tc_region ?_)
  refine sg 1 [0] [(0, .int .i64 a)] ?_
  refine to_end rfl (tn_code (tc_seq (tc_region ?_)))
  refine sg 2 [6, 7] [(6, .agg #[.int .i64 1, .int .i64 0, .int .i64 0, .int .i64 0, .bool false, .int .i64 0, .int .u32 0]), (7, .int .i64 a)] ?_
  refine cb M 8 (iput_any ⟨1, 0, 0, 0, false, 0, 0⟩ a _ (by constructor <;> decide)) fun w1 hb3 M2 => ?_
  refine sg 5 [3] [(3, .int .u64 (putW ⟨1, 0, 0, 0, false, 0, 0⟩ a).1)] ?_
  refine to_end rfl (tn_code (tc_seq (tc_region ?_)))
  refine sg 2 [2] [(2, .int .u64 (putW ⟨1, 0, 0, 0, false, 0, 0⟩ a).1)] ?_
  refine to_end rfl (tn_code (tc_ret ?_))
  refine tr_tmp rfl rfl ?_
  exact ⟨congrArg Ending.returned (rfl), M2.below⟩
end Go.Proofs.Ytfknhbgghpbkpaa

/- A function's code as words: what it is. -/
namespace Go.Proofs.Ytfknhbgghpbkpaa
open Go.RowKit Cal Go.Proofs.YtfknhbgghpbkpaaW.PrintWords
def encW (xs : List Int) : List Value := xs.map (Value.int .u64)
theorem repW (xs : List Int) : Reps (fun x c => ∀ w' ok, kW.M w' 0 ok x c) kW.sz xs (encW xs) := by
  refine ⟨by simp [encW, kW, Kd.int, Kd.scalar], fun j p hj => ?_⟩
  intro _ _
  show ((encW xs).drop (j * 1)).take 1 = [Value.int .u64 p]
  rw [Nat.mul_one]
  apply List.ext_getElem?
  intro q
  rw [List.getElem?_take, List.getElem?_drop]
  match q with
  | 0 => simp [encW, hj]
  | q + 1 => simp
/-- Where an instruction goes, and whether it may. -/
def imgTo (base att : Int) (m n k : Nat) (x : Inst) : Int × Bool :=
  if x.op = 1 then (att + k + x.off + 1, decide ((k : Int) + x.off + 1 < n)) else if x.op = 6 then (base + x.imm, decide (x.imm < (m : Int))) else (0, true)
def imgW (base att : Int) (m : Nat) (l : List Inst) (k : Nat) : Int := (putW (l.getD k Inst.z) (imgTo base att m l.length k (l.getD k Inst.z)).1).1
def imgL (base att : Int) (m : Nat) (l : List Inst) (k : Nat) : List Int := (List.range k).map (imgW base att m l)
def imgOk (base att : Int) (m : Nat) (l : List Inst) (k : Nat) : Bool := (imgTo base att m l.length k (l.getD k Inst.z)).2
def codeI (base att : Int) (m : Nat) (l : List Inst) : List Int × Int := if (∀ k, k < l.length → imgOk base att m l k = true) then (imgL base att m l l.length, 0) else ([], 8)
theorem imgL_succ (base att : Int) (m : Nat) (l : List Inst) (k : Nat) : imgL base att m l (k + 1) = imgL base att m l k ++ [imgW base att m l k] := by
  unfold imgL; rw [List.range_succ, List.map_append]; rfl
theorem imgL_len (base att : Int) (m : Nat) (l : List Inst) (k : Nat) : (imgL base att m l k).length = k := by simp [imgL]
section
variable {base att : Int} {m : Nat} {l : List Inst} {k : Nat}
theorem imgTo1 (h : (l.getD k Inst.z).op = 1) : imgTo base att m l.length k (l.getD k Inst.z) = (att + k + (l.getD k Inst.z).off + 1, decide ((k : Int) + (l.getD k Inst.z).off + 1 < (l.length : Nat))) := by unfold imgTo; rw [if_pos h]
theorem imgTo6 (h1 : (l.getD k Inst.z).op ≠ 1) (h : (l.getD k Inst.z).op = 6) : imgTo base att m l.length k (l.getD k Inst.z) = (base + (l.getD k Inst.z).imm, decide ((l.getD k Inst.z).imm < (m : Int))) := by unfold imgTo; rw [if_neg h1, if_pos h]
theorem imgTo0 (h1 : (l.getD k Inst.z).op ≠ 1) (h : (l.getD k Inst.z).op ≠ 6) : imgTo base att m l.length k (l.getD k Inst.z) = (0, true) := by unfold imgTo; rw [if_neg h1, if_neg h]
theorem imgL_next {v : Int} {t : Int × Bool} (h : imgTo base att m l.length k (l.getD k Inst.z) = t) (hv : v = (putW (l.getD k Inst.z) t.1).1) : imgL base att m l k ++ [v] = imgL base att m l (k + 1) := by
  rw [imgL_succ, hv, ← h]; rfl
theorem imgOk_step {t : Int × Bool} (hs : ∀ j, j < k → imgOk base att m l j = true) (h : imgTo base att m l.length k (l.getD k Inst.z) = t) (ht : t.2 = true) : ∀ j, j < k + 1 → imgOk base att m l j = true := fun j hj => by
  rcases Nat.lt_succ_iff_lt_or_eq.1 hj with h1 | h1
  · exact hs j h1
  · subst h1; unfold imgOk; rw [h]; exact ht
theorem codeI_yes (hk : l.length ≤ k) (hs : ∀ j, j < k → imgOk base att m l j = true) : codeI base att m l = (imgL base att m l l.length, 0) := by
  unfold codeI; rw [if_pos fun j hj => hs j (by omega)]
theorem codeI_no {t : Int × Bool} (hk : k < l.length) (h : imgTo base att m l.length k (l.getD k Inst.z) = t) (ht : t.2 = false) : codeI base att m l = ([], 8) := by
  unfold codeI
  rw [if_neg fun hs => by have := hs k hk; unfold imgOk at this; rw [h, ht] at this; cases this]
theorem find1 {op : Int} {V W : Value} (h : op = 1) : Instr.findNow (.int .i64) (.int .i64 op) (((#[] : Array MapEntry).push { key := .int .i64 1, val := V, born := 0 }).push { key := .int .i64 6, val := W, born := 1 }).toList 0 = some (some (0, V)) := by subst h; rfl
theorem find6 {op : Int} {V W : Value} (h : op = 6) : Instr.findNow (.int .i64) (.int .i64 op) (((#[] : Array MapEntry).push { key := .int .i64 1, val := V, born := 0 }).push { key := .int .i64 6, val := W, born := 1 }).toList 0 = some (some (1, W)) := by subst h; rfl
theorem find0 {op : Int} {V W : Value} (h1 : op ≠ 1) (h : op ≠ 6) : Instr.findNow (.int .i64) (.int .i64 op) (((#[] : Array MapEntry).push { key := .int .i64 1, val := V, born := 0 }).push { key := .int .i64 6, val := W, born := 1 }).toList 0 = some none := by
  have e1 : (op == 1) = false := beq_eq_false_iff_ne.2 h1
  have e2 : (op == 6) = false := beq_eq_false_iff_ne.2 h
  simp [Instr.findNow, Instr.sameNow, e1, e2]
end
end Go.Proofs.Ytfknhbgghpbkpaa

/- Layer 14: a function's code as words. -/
namespace Go.Proofs.Ytfknhbgghpbkpaa
open Go.RowKit Cal Go.Proofs.YtfknhbgghpbkpaaW.PrintWords
theorem op_cases (op : Int) : op = 1 ∨ (op ≠ 1 ∧ op = 6) ∨ (op ≠ 1 ∧ op ≠ 6) := by omega

theorem code_bd {f : Fn} (h : fnMay f = true) (ho : f.ok) (k : Nat) (hk : k < f.code.length) : 0 ≤ (f.code.getD k Inst.z).off ∧ (f.code.getD k Inst.z).off ≤ 100000 ∧ 0 ≤ (f.code.getD k Inst.z).imm ∧ (f.code.getD k Inst.z).imm < 4294967296 := by
  have hm : f.code.getD k Inst.z ∈ f.code := at_mem Inst.z hk
  have h1 := may_bd ((fnMay_bd h).2.2.2.2 _ hm)
  obtain ⟨_, _, _, _, _, h6, h7⟩ := ho.2 _ hm
  omega

theorem imgcode_any (p : List Fn) (A : Option Addr) (c fn : Nat) (base att : Int) (w : World) (hC : kFn.C w A p.length p) (hfn : fn < p.length) (hpl : p.length ≤ 100000) (hbs : 0 ≤ base ∧ base ≤ 100000) (hat : 0 ≤ att ∧ att ≤ 100000) (hmay : fnMay (p.getD fn Fn.z) = true) (hof : (p.getD fn Fn.z).ok) : Calls Try.prog 90 #[.agg #[.slice A p.length c], .int .i64 (fn : Int), .int .i64 base, .int .i64 att] w fun e w' => ∃ A' c', e = .returned (.tuple #[.slice A' (codeI base att p.length (p.getD fn Fn.z).code).1.length c', .int .i64 (codeI base att p.length (p.getD fn Fn.z).code).2]) ∧ Mem w w' [row kW 26 (.slice A' (codeI base att p.length (p.getD fn Fn.z).code).1.length c') (codeI base att p.length (p.getD fn Fn.z).code).1] := by
  have M := Mem.refl w
  have hmx := C_max hC
  have hfb := fnMay_bd hmay
  refine calls_tc (N := 67) (args := [.agg #[.slice A p.length c], .int .i64 (fn : Int), .int .i64 base, .int .i64 att]) Try.func90 rfl rfl rfl ?_
  refine tc_seq (tc_region ?_)
  refine nw M 4 #[.slice A p.length c] 45 fun b1 w2 M3 => ?_
  refine nw M3 6 #[.int .i64 base] 3 fun b4 w5 M6 => ?_
  refine nw M6 7 #[.int .i64 att] 3 fun b7 w8 M9 => ?_
  refine sg 2 [1, 4, 6, 7] [(1, .int .i64 (fn : Int)), (4, .pointer (some ⟨b1, 0, none⟩)), (6, .pointer (some ⟨b4, 0, none⟩)), (7, .pointer (some ⟨b7, 0, none⟩))] ?_
  refine to_end rfl (tn_code (tc_seq (tc_region ?_)))
  refine sg 1 [1, 4, 6, 7, 10] [(1, .int .i64 (fn : Int)), (4, .pointer (some ⟨b1, 0, none⟩)), (6, .pointer (some ⟨b4, 0, none⟩)), (7, .pointer (some ⟨b7, 0, none⟩)), (10, .slice none 0 0)] ?_
  refine to_end rfl (tn_code (tc_seq (tc_region ?_)))
  refine sg 1 [1, 4, 6, 7, 10, 21] [(1, .int .i64 (fn : Int)), (4, .pointer (some ⟨b1, 0, none⟩)), (6, .pointer (some ⟨b4, 0, none⟩)), (7, .pointer (some ⟨b7, 0, none⟩)), (10, .slice none 0 0), (21, .pointer (some ⟨b1, 0, none⟩))] ?_
  refine ld M9 2 22 (.slice A p.length c) ?_
  refine sg 1 [4, 6, 7, 10, 22, 23] [(4, .pointer (some ⟨b1, 0, none⟩)), (6, .pointer (some ⟨b4, 0, none⟩)), (7, .pointer (some ⟨b7, 0, none⟩)), (10, .slice none 0 0), (22, .slice A p.length c), (23, .int .i64 (fn : Int))] ?_
  obtain ⟨ad10, rfl⟩ := C_some hC (k := fn) (by omega)
  refine ix (ad := ad10) (n := p.length) (c := c) 24 fn 2 (by omega) Try.underlying43 ?_
  refine sg 1 [4, 6, 7, 10, 25] [(4, .pointer (some ⟨b1, 0, none⟩)), (6, .pointer (some ⟨b4, 0, none⟩)), (7, .pointer (some ⟨b7, 0, none⟩)), (10, .slice none 0 0), (25, .pointer (some ((ad10.add (fn * 2)).add 1)))] ?_
  obtain ⟨cs13, hk11, hc12⟩ := C_cell hC Fn.z fn (by omega)
  obtain ⟨A14, c15, rfl, hl16, hC17⟩ := kFn_open hk11
  refine le 26 (.slice A14 (p.getD fn Fn.z).code.length c15) (cell_up M9 (hc12 1 _ rfl)) ?_
  refine nw M9 11 #[.slice none 0 0] 55 fun b18 w19 M20 => ?_
  refine st M20 0 #[.slice A14 (p.getD fn Fn.z).code.length c15] fun w21 M22 => ?_
  refine to_end rfl (tn_code (tc_seq (tc_region ?_)))
  refine to_mm M22 27 fun r23 w24 M25 => ?_
  refine sg 1 [4, 6, 10, 11, 27, 28] [(4, .pointer (some ⟨b1, 0, none⟩)), (6, .pointer (some ⟨b4, 0, none⟩)), (10, .slice none 0 0), (11, .pointer (some ⟨b18, 0, none⟩)), (27, .map (some r23)), (28, .func (.func 130) #[] #[.pointer (some ⟨b7, 0, none⟩), .pointer (some ⟨b18, 0, none⟩)])] ?_
  refine to_ins (kk := .i64) (key := 1) (V := .func (.func 130) #[] #[.pointer (some ⟨b7, 0, none⟩), .pointer (some ⟨b18, 0, none⟩)]) (es := (#[] : Array MapEntry)) (clock := 0) M25 0 Try.underlying191 Try.underlying3 rfl fun w26 M27 => ?_
  refine sg 1 [10, 11, 27, 29] [(10, .slice none 0 0), (11, .pointer (some ⟨b18, 0, none⟩)), (27, .map (some r23)), (29, .func (.func 131) #[] #[.pointer (some ⟨b4, 0, none⟩), .pointer (some ⟨b1, 0, none⟩)])] ?_
  refine to_ins (kk := .i64) (key := 6) (V := .func (.func 131) #[] #[.pointer (some ⟨b4, 0, none⟩), .pointer (some ⟨b1, 0, none⟩)]) (es := ((#[] : Array MapEntry).push { key := .int .i64 1, val := .func (.func 130) #[] #[.pointer (some ⟨b7, 0, none⟩), .pointer (some ⟨b18, 0, none⟩)], born := 0 })) (clock := 1) M27 0 Try.underlying191 Try.underlying3 rfl fun w28 M29 => ?_
  refine sg 2 [10, 11, 12] [(10, .slice none 0 0), (11, .pointer (some ⟨b18, 0, none⟩)), (12, .map (some r23))] ?_
  refine to_end rfl (tn_code (tc_seq (tc_seq (tc_region ?_))))
  refine ld M29 1 31 (.slice A14 (p.getD fn Fn.z).code.length c15) ?_
  refine sg 2 [10, 12, 31, 32, 33] [(10, .slice none 0 0), (12, .map (some r23)), (31, .slice A14 (p.getD fn Fn.z).code.length c15), (32, .int .i64 ((p.getD fn Fn.z).code.length : Int)), (33, .int .i64 0)] ?_
  refine to_end rfl (tn_code (tc_block ?_))
  have M30 := M29.nilrow kW 26
  refine tc_loop (σ := Nat × Option Addr × Nat) (fun s_ => match s_ with | (k36, A37, c38) => [(12, .map (some r23)), (31, .slice A14 (p.getD fn Fn.z).code.length c15), (32, .int .i64 ((p.getD fn Fn.z).code.length : Int)), (10, .slice A37 (imgL base att p.length (p.getD fn Fn.z).code k36).length c38), (33, .int .i64 (k36 : Int))]) (fun s_ w' => match s_ with | (k36, A37, c38) => k36 ≤ (p.getD fn Fn.z).code.length ∧ (∀ j, j < k36 → imgOk base att p.length (p.getD fn Fn.z).code j = true) ∧ Mem w w' ([row kW 26 (.slice A37 (imgL base att p.length (p.getD fn Fn.z).code k36).length c38) (imgL base att p.length (p.getD fn Fn.z).code k36), objE r23 (.map (((#[] : Array MapEntry).push { key := .int .i64 1, val := .func (.func 130) #[] #[.pointer (some ⟨b7, 0, none⟩), .pointer (some ⟨b18, 0, none⟩)], born := 0 }).push { key := .int .i64 6, val := .func (.func 131) #[] #[.pointer (some ⟨b4, 0, none⟩), .pointer (some ⟨b1, 0, none⟩)], born := 1 }) 2), blk b18 #[.slice A14 (p.getD fn Fn.z).code.length c15] 55, blk b7 #[.int .i64 att] 3, blk b4 #[.int .i64 base] 3, blk b1 #[.slice (some ad10) p.length c] 45])) (fun s_ => (p.getD fn Fn.z).code.length - s_.1) (0, none, 0) (Sub.cons rfl (Sub.cons rfl (Sub.cons rfl (Sub.cons rfl (Sub.cons rfl (Sub.nil _)))))) ⟨Nat.zero_le _, fun j hj => absurd hj (Nat.not_lt_zero _), M30⟩ ?_
  rintro ⟨k36, A37, c38⟩ w41 ⟨hk39, hi40, M42⟩
  refine tc_seq (tc_region ?_)
  refine sg 1 [12, 31, 32, 10, 33, 34] [(12, .map (some r23)), (31, .slice A14 (p.getD fn Fn.z).code.length c15), (32, .int .i64 ((p.getD fn Fn.z).code.length : Int)), (10, .slice A37 (imgL base att p.length (p.getD fn Fn.z).code k36).length c38), (33, .int .i64 (k36 : Int)), (34, .bool (decide ((k36 : Int) < ((p.getD fn Fn.z).code.length : Int))))] ?_
  refine to_end rfl (tn_code (tc_seq ?_))
  refine tc_cond (b := decide ((k36 : Int) < ((p.getD fn Fn.z).code.length : Int))) (fun _ => rfl) (fun h43 => ?_) (fun h43 => ?_)
  · have h43p := of_decide_eq_true h43
    refine tc_skip (tn_code (tc_seq (tc_block (tc_seq (tc_region ?_)))))
    refine sg 1 [12, 31, 32, 10, 33, 35] [(12, .map (some r23)), (31, .slice A14 (p.getD fn Fn.z).code.length c15), (32, .int .i64 ((p.getD fn Fn.z).code.length : Int)), (10, .slice A37 (imgL base att p.length (p.getD fn Fn.z).code k36).length c38), (33, .int .i64 (k36 : Int)), (35, .int .i64 (k36 : Int))] ?_
    obtain ⟨ad44, rfl⟩ := C_some hC17 (k := k36) (by omega)
    refine ix (ad := ad44) (n := (p.getD fn Fn.z).code.length) (c := c15) 36 k36 7 (by omega) Try.underlying55 ?_
    obtain ⟨cs47, hk45, hc46⟩ := C_cell hC17 Inst.z k36 (by omega)
    obtain rfl := kInst_open hk45
    refine lea 37 ((p.getD fn Fn.z).code.getD k36 Inst.z).cs (fun j u hj => cell_up M42 (hc46 j u hj)) (hu := Try.underlying65) ?_
    have hxb := code_bd hmay hof k36 (by omega)
    refine nw M42 14 #[.int .i64 0, .int .i64 0, .int .i64 0, .int .i64 0, .bool false, .int .i64 0, .int .u32 0] 65 fun b48 w49 M50 => ?_
    refine sg 1 [12, 31, 32, 10, 33, 37, 14, 13] [(12, .map (some r23)), (31, .slice (some ad44) (p.getD fn Fn.z).code.length c15), (32, .int .i64 ((p.getD fn Fn.z).code.length : Int)), (10, .slice A37 (imgL base att p.length (p.getD fn Fn.z).code k36).length c38), (33, .int .i64 (k36 : Int)), (37, .agg ((p.getD fn Fn.z).code.getD k36 Inst.z).cs), (14, .pointer (some ⟨b48, 0, none⟩)), (13, .int .i64 (k36 : Int))] ?_
    refine sa M50 0 ((p.getD fn Fn.z).code.getD k36 Inst.z).cs fun w51 M52 => ?_
    refine to_end rfl (tn_code (tc_seq (tc_region ?_)))
    refine sg 2 [12, 31, 32, 10, 33, 14, 13, 15, 16] [(12, .map (some r23)), (31, .slice (some ad44) (p.getD fn Fn.z).code.length c15), (32, .int .i64 ((p.getD fn Fn.z).code.length : Int)), (10, .slice A37 (imgL base att p.length (p.getD fn Fn.z).code k36).length c38), (33, .int .i64 (k36 : Int)), (14, .pointer (some ⟨b48, 0, none⟩)), (13, .int .i64 (k36 : Int)), (15, .int .i64 0), (16, .bool true)] ?_
    refine to_end rfl (tn_code (tc_seq (tc_seq (tc_region ?_))))
    refine sg 2 [12, 31, 32, 10, 33, 14, 13, 15, 16, 39, 40] [(12, .map (some r23)), (31, .slice (some ad44) (p.getD fn Fn.z).code.length c15), (32, .int .i64 ((p.getD fn Fn.z).code.length : Int)), (10, .slice A37 (imgL base att p.length (p.getD fn Fn.z).code k36).length c38), (33, .int .i64 (k36 : Int)), (14, .pointer (some ⟨b48, 0, none⟩)), (13, .int .i64 (k36 : Int)), (15, .int .i64 0), (16, .bool true), (39, .map (some r23)), (40, .pointer (some ⟨b48, 0, none⟩))] ?_
    refine ld M52 0 41 (.int .i64 ((p.getD fn Fn.z).code.getD k36 Inst.z).op) ?_
    rcases op_cases ((p.getD fn Fn.z).code.getD k36 Inst.z).op with hc53 | ⟨h1_, hc53⟩ | ⟨h1_, hc53⟩
    · refine to_lk (kk := .i64) (key := ((p.getD fn Fn.z).code.getD k36 Inst.z).op) M52 2 42 (some (0, .func (.func 130) #[] #[.pointer (some ⟨b7, 0, none⟩), .pointer (some ⟨b18, 0, none⟩)])) .nilFunc Try.underlying191 Try.underlying3 (find1 hc53) (by kernel_rfl) ?_
      refine sg 5 [12, 31, 32, 10, 33, 14, 13, 15, 16, 17, 18] [(12, .map (some r23)), (31, .slice (some ad44) (p.getD fn Fn.z).code.length c15), (32, .int .i64 ((p.getD fn Fn.z).code.length : Int)), (10, .slice A37 (imgL base att p.length (p.getD fn Fn.z).code k36).length c38), (33, .int .i64 (k36 : Int)), (14, .pointer (some ⟨b48, 0, none⟩)), (13, .int .i64 (k36 : Int)), (15, .int .i64 0), (16, .bool true), (17, .func (.func 130) #[] #[.pointer (some ⟨b7, 0, none⟩), .pointer (some ⟨b18, 0, none⟩)]), (18, .bool true)] ?_
      refine to_end rfl (tn_code (tc_seq (tc_region ?_)))
      refine sg 1 [12, 31, 32, 10, 33, 14, 13, 15, 16, 17, 45] [(12, .map (some r23)), (31, .slice (some ad44) (p.getD fn Fn.z).code.length c15), (32, .int .i64 ((p.getD fn Fn.z).code.length : Int)), (10, .slice A37 (imgL base att p.length (p.getD fn Fn.z).code k36).length c38), (33, .int .i64 (k36 : Int)), (14, .pointer (some ⟨b48, 0, none⟩)), (13, .int .i64 (k36 : Int)), (15, .int .i64 0), (16, .bool true), (17, .func (.func 130) #[] #[.pointer (some ⟨b7, 0, none⟩), .pointer (some ⟨b18, 0, none⟩)]), (45, .bool true)] ?_
      refine to_end rfl (tn_code (tc_cond_t (fun _ => rfl) (tc_region ?_)))
      refine sg 2 [12, 31, 32, 10, 33, 14, 47, 48] [(12, .map (some r23)), (31, .slice (some ad44) (p.getD fn Fn.z).code.length c15), (32, .int .i64 ((p.getD fn Fn.z).code.length : Int)), (10, .slice A37 (imgL base att p.length (p.getD fn Fn.z).code k36).length c38), (33, .int .i64 (k36 : Int)), (14, .pointer (some ⟨b48, 0, none⟩)), (47, .func (.func 130) #[] #[.pointer (some ⟨b7, 0, none⟩), .pointer (some ⟨b18, 0, none⟩)]), (48, .int .i64 (k36 : Int))] ?_
      refine la M52 0 49 ((p.getD fn Fn.z).code.getD k36 Inst.z).cs (hu := Try.underlying65) ?_
      refine cb M52 50 (jump_to k36 ((p.getD fn Fn.z).code.getD k36 Inst.z) b7 b18 att (some ad44) (p.getD fn Fn.z).code.length c15 _ (M52.blk_at 4 rfl) (M52.blk_at 3 rfl) hat (by omega) (by omega)) fun w54 hb56 M55 => ?_
      refine sg 5 [12, 31, 32, 10, 33, 14, 15, 16] [(12, .map (some r23)), (31, .slice (some ad44) (p.getD fn Fn.z).code.length c15), (32, .int .i64 ((p.getD fn Fn.z).code.length : Int)), (10, .slice A37 (imgL base att p.length (p.getD fn Fn.z).code k36).length c38), (33, .int .i64 (k36 : Int)), (14, .pointer (some ⟨b48, 0, none⟩)), (15, .int .i64 (att + k36 + ((p.getD fn Fn.z).code.getD k36 Inst.z).off + 1)), (16, .bool (decide ((k36 : Int) + ((p.getD fn Fn.z).code.getD k36 Inst.z).off + 1 < ((p.getD fn Fn.z).code.length : Nat))))] ?_
      refine to_end rfl (tn_code (tc_seq (tc_seq (tc_region ?_))))
      refine sg 2 [12, 31, 32, 10, 33, 14, 15, 54] [(12, .map (some r23)), (31, .slice (some ad44) (p.getD fn Fn.z).code.length c15), (32, .int .i64 ((p.getD fn Fn.z).code.length : Int)), (10, .slice A37 (imgL base att p.length (p.getD fn Fn.z).code k36).length c38), (33, .int .i64 (k36 : Int)), (14, .pointer (some ⟨b48, 0, none⟩)), (15, .int .i64 (att + k36 + ((p.getD fn Fn.z).code.getD k36 Inst.z).off + 1)), (54, .bool (!(decide ((k36 : Int) + ((p.getD fn Fn.z).code.getD k36 Inst.z).off + 1 < ((p.getD fn Fn.z).code.length : Nat)))))] ?_
      refine to_end rfl (tn_code ?_)
      rcases h57 : (decide ((k36 : Int) + ((p.getD fn Fn.z).code.getD k36 Inst.z).off + 1 < ((p.getD fn Fn.z).code.length : Nat)) : Bool) with _ | _
      · have h57p := of_decide_eq_false h57
        refine tc_cond_t (fun _ => rfl) (tc_seq (tc_region ?_))
        refine sg 2 [8, 9] [(8, .slice none 0 0), (9, .int .i64 8)] ?_
        refine to_end rfl (tn_code (tc_ret ?_))
        refine tr_tmp2 rfl rfl rfl ?_
        have he := codeI_no (base := base) (att := att) (m := p.length) (l := (p.getD fn Fn.z).code) (by omega) (imgTo1 hc53) h57
        rw [he]
        exact ⟨none, 0, rfl, ((((((((M55.drop 6).drop 5).drop 4).drop 3).drop 2).drop 1).drop 0)).nilrow kW 26⟩
      · have h57p := of_decide_eq_true h57
        refine tc_cond_f (fun _ => rfl) (tc_skip (tn_code (tc_seq (tc_region ?_))))
        refine la M55 0 56 ((p.getD fn Fn.z).code.getD k36 Inst.z).cs (hu := Try.underlying65) ?_
        refine sg 1 [12, 31, 32, 10, 33, 56, 57] [(12, .map (some r23)), (31, .slice (some ad44) (p.getD fn Fn.z).code.length c15), (32, .int .i64 ((p.getD fn Fn.z).code.length : Int)), (10, .slice A37 (imgL base att p.length (p.getD fn Fn.z).code k36).length c38), (33, .int .i64 (k36 : Int)), (56, .agg ((p.getD fn Fn.z).code.getD k36 Inst.z).cs), (57, .int .i64 (att + k36 + ((p.getD fn Fn.z).code.getD k36 Inst.z).off + 1))] ?_
        refine cb M55 58 (iput_any ((p.getD fn Fn.z).code.getD k36 Inst.z) (att + k36 + ((p.getD fn Fn.z).code.getD k36 Inst.z).off + 1) _ (by omega)) fun w58 hb60 M59 => ?_
        refine sg 5 [12, 31, 32, 10, 33, 19] [(12, .map (some r23)), (31, .slice (some ad44) (p.getD fn Fn.z).code.length c15), (32, .int .i64 ((p.getD fn Fn.z).code.length : Int)), (10, .slice A37 (imgL base att p.length (p.getD fn Fn.z).code k36).length c38), (33, .int .i64 (k36 : Int)), (19, .int .u64 (putW ((p.getD fn Fn.z).code.getD k36 Inst.z) (att + k36 + ((p.getD fn Fn.z).code.getD k36 Inst.z).off + 1)).1)] ?_
        refine to_end rfl (tn_code (tc_region ?_))
        refine sg 2 [12, 31, 32, 33, 61, 62] [(12, .map (some r23)), (31, .slice (some ad44) (p.getD fn Fn.z).code.length c15), (32, .int .i64 ((p.getD fn Fn.z).code.length : Int)), (33, .int .i64 (k36 : Int)), (61, .slice A37 (imgL base att p.length (p.getD fn Fn.z).code k36).length c38), (62, .int .u64 (putW ((p.getD fn Fn.z).code.getD k36 Inst.z) (att + k36 + ((p.getD fn Fn.z).code.getD k36 Inst.z).off + 1)).1)] ?_
        refine bsF M59 63 kW 26 ([(putW ((p.getD fn Fn.z).code.getD k36 Inst.z) (att + k36 + ((p.getD fn Fn.z).code.getD k36 Inst.z).off + 1)).1] : List Int) #[.int .u64 (putW ((p.getD fn Fn.z).code.getD k36 Inst.z) (att + k36 + ((p.getD fn Fn.z).code.getD k36 Inst.z).off + 1)).1] (repW [(putW ((p.getD fn Fn.z).code.getD k36 Inst.z) (att + k36 + ((p.getD fn Fn.z).code.getD k36 Inst.z).off + 1)).1]) (Nat.le_of_ble_eq_true rfl) fun b61 w62 M63 => ?_
        have M68 := M63.front 2 rfl
        refine ap (z := .int .u64 0) (bytes := 8) M68 64 Try.underlying25 ?_ fun A64 c65 w66 M67 => ?_
        · simp only [List.length_append, List.length_cons, List.length_nil, imgL_len]; omega
        refine sg 1 [12, 31, 32, 33, 10] [(12, .map (some r23)), (31, .slice (some ad44) (p.getD fn Fn.z).code.length c15), (32, .int .i64 ((p.getD fn Fn.z).code.length : Int)), (33, .int .i64 (k36 : Int)), (10, .slice A64 ((imgL base att p.length (p.getD fn Fn.z).code k36) ++ [(putW ((p.getD fn Fn.z).code.getD k36 Inst.z) (att + k36 + ((p.getD fn Fn.z).code.getD k36 Inst.z).off + 1)).1]).length c65)] ?_
        refine to_end rfl (tn_blk (tn_code (tc_region ?_)))
        refine sg 2 [12, 31, 32, 33, 10] [(12, .map (some r23)), (31, .slice (some ad44) (p.getD fn Fn.z).code.length c15), (32, .int .i64 ((p.getD fn Fn.z).code.length : Int)), (33, .int .i64 (IntKind.wrap .i64 ((k36 : Int) + 1))), (10, .slice A64 ((imgL base att p.length (p.getD fn Fn.z).code k36) ++ [(putW ((p.getD fn Fn.z).code.getD k36 Inst.z) (att + k36 + ((p.getD fn Fn.z).code.getD k36 Inst.z).off + 1)).1]).length c65)] ?_
        rw [show IntKind.wrap .i64 ((k36 : Int) + 1) = (((k36 + 1) : Nat) : Int) from wr_nat k36 1 (by omega)]
        refine to_end rfl ?_
        have M69 := M67.drop 1
        have hs70 : ((imgL base att p.length (p.getD fn Fn.z).code k36) ++ [(putW ((p.getD fn Fn.z).code.getD k36 Inst.z) (att + k36 + ((p.getD fn Fn.z).code.getD k36 Inst.z).off + 1)).1]) = (imgL base att p.length (p.getD fn Fn.z).code (k36 + 1)) := imgL_next (imgTo1 hc53) rfl
        exact tn_back ((k36 + 1), A64, c65) (Sub.cons rfl (Sub.cons rfl (Sub.cons rfl (Sub.cons (by rw [← hs70]; rfl) (Sub.cons rfl (Sub.nil _)))))) ⟨by omega, imgOk_step hi40 (imgTo1 hc53) (h57), (by rw [← hs70]; exact M69)⟩ (by omega)
    · refine to_lk (kk := .i64) (key := ((p.getD fn Fn.z).code.getD k36 Inst.z).op) M52 2 42 (some (1, .func (.func 131) #[] #[.pointer (some ⟨b4, 0, none⟩), .pointer (some ⟨b1, 0, none⟩)])) .nilFunc Try.underlying191 Try.underlying3 (find6 hc53) (by kernel_rfl) ?_
      refine sg 5 [12, 31, 32, 10, 33, 14, 13, 15, 16, 17, 18] [(12, .map (some r23)), (31, .slice (some ad44) (p.getD fn Fn.z).code.length c15), (32, .int .i64 ((p.getD fn Fn.z).code.length : Int)), (10, .slice A37 (imgL base att p.length (p.getD fn Fn.z).code k36).length c38), (33, .int .i64 (k36 : Int)), (14, .pointer (some ⟨b48, 0, none⟩)), (13, .int .i64 (k36 : Int)), (15, .int .i64 0), (16, .bool true), (17, .func (.func 131) #[] #[.pointer (some ⟨b4, 0, none⟩), .pointer (some ⟨b1, 0, none⟩)]), (18, .bool true)] ?_
      refine to_end rfl (tn_code (tc_seq (tc_region ?_)))
      refine sg 1 [12, 31, 32, 10, 33, 14, 13, 15, 16, 17, 45] [(12, .map (some r23)), (31, .slice (some ad44) (p.getD fn Fn.z).code.length c15), (32, .int .i64 ((p.getD fn Fn.z).code.length : Int)), (10, .slice A37 (imgL base att p.length (p.getD fn Fn.z).code k36).length c38), (33, .int .i64 (k36 : Int)), (14, .pointer (some ⟨b48, 0, none⟩)), (13, .int .i64 (k36 : Int)), (15, .int .i64 0), (16, .bool true), (17, .func (.func 131) #[] #[.pointer (some ⟨b4, 0, none⟩), .pointer (some ⟨b1, 0, none⟩)]), (45, .bool true)] ?_
      refine to_end rfl (tn_code (tc_cond_t (fun _ => rfl) (tc_region ?_)))
      refine sg 2 [12, 31, 32, 10, 33, 14, 47, 48] [(12, .map (some r23)), (31, .slice (some ad44) (p.getD fn Fn.z).code.length c15), (32, .int .i64 ((p.getD fn Fn.z).code.length : Int)), (10, .slice A37 (imgL base att p.length (p.getD fn Fn.z).code k36).length c38), (33, .int .i64 (k36 : Int)), (14, .pointer (some ⟨b48, 0, none⟩)), (47, .func (.func 131) #[] #[.pointer (some ⟨b4, 0, none⟩), .pointer (some ⟨b1, 0, none⟩)]), (48, .int .i64 (k36 : Int))] ?_
      refine la M52 0 49 ((p.getD fn Fn.z).code.getD k36 Inst.z).cs (hu := Try.underlying65) ?_
      refine cb M52 50 (call_to k36 ((p.getD fn Fn.z).code.getD k36 Inst.z) b4 b1 base (some ad10) p.length c _ (M52.blk_at 5 rfl) (M52.blk_at 6 rfl) hbs (by omega) (by omega)) fun w71 hb73 M72 => ?_
      refine sg 5 [12, 31, 32, 10, 33, 14, 15, 16] [(12, .map (some r23)), (31, .slice (some ad44) (p.getD fn Fn.z).code.length c15), (32, .int .i64 ((p.getD fn Fn.z).code.length : Int)), (10, .slice A37 (imgL base att p.length (p.getD fn Fn.z).code k36).length c38), (33, .int .i64 (k36 : Int)), (14, .pointer (some ⟨b48, 0, none⟩)), (15, .int .i64 (base + ((p.getD fn Fn.z).code.getD k36 Inst.z).imm)), (16, .bool (decide (((p.getD fn Fn.z).code.getD k36 Inst.z).imm < ((p.length : Nat) : Int))))] ?_
      refine to_end rfl (tn_code (tc_seq (tc_seq (tc_region ?_))))
      refine sg 2 [12, 31, 32, 10, 33, 14, 15, 54] [(12, .map (some r23)), (31, .slice (some ad44) (p.getD fn Fn.z).code.length c15), (32, .int .i64 ((p.getD fn Fn.z).code.length : Int)), (10, .slice A37 (imgL base att p.length (p.getD fn Fn.z).code k36).length c38), (33, .int .i64 (k36 : Int)), (14, .pointer (some ⟨b48, 0, none⟩)), (15, .int .i64 (base + ((p.getD fn Fn.z).code.getD k36 Inst.z).imm)), (54, .bool (!(decide (((p.getD fn Fn.z).code.getD k36 Inst.z).imm < ((p.length : Nat) : Int)))))] ?_
      refine to_end rfl (tn_code ?_)
      rcases h74 : (decide (((p.getD fn Fn.z).code.getD k36 Inst.z).imm < ((p.length : Nat) : Int)) : Bool) with _ | _
      · have h74p := of_decide_eq_false h74
        refine tc_cond_t (fun _ => rfl) (tc_seq (tc_region ?_))
        refine sg 2 [8, 9] [(8, .slice none 0 0), (9, .int .i64 8)] ?_
        refine to_end rfl (tn_code (tc_ret ?_))
        refine tr_tmp2 rfl rfl rfl ?_
        have he := codeI_no (base := base) (att := att) (m := p.length) (l := (p.getD fn Fn.z).code) (by omega) (imgTo6 h1_ hc53) h74
        rw [he]
        exact ⟨none, 0, rfl, ((((((((M72.drop 6).drop 5).drop 4).drop 3).drop 2).drop 1).drop 0)).nilrow kW 26⟩
      · have h74p := of_decide_eq_true h74
        refine tc_cond_f (fun _ => rfl) (tc_skip (tn_code (tc_seq (tc_region ?_))))
        refine la M72 0 56 ((p.getD fn Fn.z).code.getD k36 Inst.z).cs (hu := Try.underlying65) ?_
        refine sg 1 [12, 31, 32, 10, 33, 56, 57] [(12, .map (some r23)), (31, .slice (some ad44) (p.getD fn Fn.z).code.length c15), (32, .int .i64 ((p.getD fn Fn.z).code.length : Int)), (10, .slice A37 (imgL base att p.length (p.getD fn Fn.z).code k36).length c38), (33, .int .i64 (k36 : Int)), (56, .agg ((p.getD fn Fn.z).code.getD k36 Inst.z).cs), (57, .int .i64 (base + ((p.getD fn Fn.z).code.getD k36 Inst.z).imm))] ?_
        refine cb M72 58 (iput_any ((p.getD fn Fn.z).code.getD k36 Inst.z) (base + ((p.getD fn Fn.z).code.getD k36 Inst.z).imm) _ (by omega)) fun w75 hb77 M76 => ?_
        refine sg 5 [12, 31, 32, 10, 33, 19] [(12, .map (some r23)), (31, .slice (some ad44) (p.getD fn Fn.z).code.length c15), (32, .int .i64 ((p.getD fn Fn.z).code.length : Int)), (10, .slice A37 (imgL base att p.length (p.getD fn Fn.z).code k36).length c38), (33, .int .i64 (k36 : Int)), (19, .int .u64 (putW ((p.getD fn Fn.z).code.getD k36 Inst.z) (base + ((p.getD fn Fn.z).code.getD k36 Inst.z).imm)).1)] ?_
        refine to_end rfl (tn_code (tc_region ?_))
        refine sg 2 [12, 31, 32, 33, 61, 62] [(12, .map (some r23)), (31, .slice (some ad44) (p.getD fn Fn.z).code.length c15), (32, .int .i64 ((p.getD fn Fn.z).code.length : Int)), (33, .int .i64 (k36 : Int)), (61, .slice A37 (imgL base att p.length (p.getD fn Fn.z).code k36).length c38), (62, .int .u64 (putW ((p.getD fn Fn.z).code.getD k36 Inst.z) (base + ((p.getD fn Fn.z).code.getD k36 Inst.z).imm)).1)] ?_
        refine bsF M76 63 kW 26 ([(putW ((p.getD fn Fn.z).code.getD k36 Inst.z) (base + ((p.getD fn Fn.z).code.getD k36 Inst.z).imm)).1] : List Int) #[.int .u64 (putW ((p.getD fn Fn.z).code.getD k36 Inst.z) (base + ((p.getD fn Fn.z).code.getD k36 Inst.z).imm)).1] (repW [(putW ((p.getD fn Fn.z).code.getD k36 Inst.z) (base + ((p.getD fn Fn.z).code.getD k36 Inst.z).imm)).1]) (Nat.le_of_ble_eq_true rfl) fun b78 w79 M80 => ?_
        have M85 := M80.front 2 rfl
        refine ap (z := .int .u64 0) (bytes := 8) M85 64 Try.underlying25 ?_ fun A81 c82 w83 M84 => ?_
        · simp only [List.length_append, List.length_cons, List.length_nil, imgL_len]; omega
        refine sg 1 [12, 31, 32, 33, 10] [(12, .map (some r23)), (31, .slice (some ad44) (p.getD fn Fn.z).code.length c15), (32, .int .i64 ((p.getD fn Fn.z).code.length : Int)), (33, .int .i64 (k36 : Int)), (10, .slice A81 ((imgL base att p.length (p.getD fn Fn.z).code k36) ++ [(putW ((p.getD fn Fn.z).code.getD k36 Inst.z) (base + ((p.getD fn Fn.z).code.getD k36 Inst.z).imm)).1]).length c82)] ?_
        refine to_end rfl (tn_blk (tn_code (tc_region ?_)))
        refine sg 2 [12, 31, 32, 33, 10] [(12, .map (some r23)), (31, .slice (some ad44) (p.getD fn Fn.z).code.length c15), (32, .int .i64 ((p.getD fn Fn.z).code.length : Int)), (33, .int .i64 (IntKind.wrap .i64 ((k36 : Int) + 1))), (10, .slice A81 ((imgL base att p.length (p.getD fn Fn.z).code k36) ++ [(putW ((p.getD fn Fn.z).code.getD k36 Inst.z) (base + ((p.getD fn Fn.z).code.getD k36 Inst.z).imm)).1]).length c82)] ?_
        rw [show IntKind.wrap .i64 ((k36 : Int) + 1) = (((k36 + 1) : Nat) : Int) from wr_nat k36 1 (by omega)]
        refine to_end rfl ?_
        have M86 := M84.drop 1
        have hs87 : ((imgL base att p.length (p.getD fn Fn.z).code k36) ++ [(putW ((p.getD fn Fn.z).code.getD k36 Inst.z) (base + ((p.getD fn Fn.z).code.getD k36 Inst.z).imm)).1]) = (imgL base att p.length (p.getD fn Fn.z).code (k36 + 1)) := imgL_next (imgTo6 h1_ hc53) rfl
        exact tn_back ((k36 + 1), A81, c82) (Sub.cons rfl (Sub.cons rfl (Sub.cons rfl (Sub.cons (by rw [← hs87]; rfl) (Sub.cons rfl (Sub.nil _)))))) ⟨by omega, imgOk_step hi40 (imgTo6 h1_ hc53) (h74), (by rw [← hs87]; exact M86)⟩ (by omega)
    · refine to_lk (kk := .i64) (key := ((p.getD fn Fn.z).code.getD k36 Inst.z).op) M52 2 42 none .nilFunc Try.underlying191 Try.underlying3 (find0 h1_ hc53) (by kernel_rfl) ?_
      refine sg 5 [12, 31, 32, 10, 33, 14, 13, 15, 16, 17, 18] [(12, .map (some r23)), (31, .slice (some ad44) (p.getD fn Fn.z).code.length c15), (32, .int .i64 ((p.getD fn Fn.z).code.length : Int)), (10, .slice A37 (imgL base att p.length (p.getD fn Fn.z).code k36).length c38), (33, .int .i64 (k36 : Int)), (14, .pointer (some ⟨b48, 0, none⟩)), (13, .int .i64 (k36 : Int)), (15, .int .i64 0), (16, .bool true), (17, .nilFunc), (18, .bool false)] ?_
      refine to_end rfl (tn_code (tc_seq (tc_region ?_)))
      refine sg 1 [12, 31, 32, 10, 33, 14, 13, 15, 16, 17, 45] [(12, .map (some r23)), (31, .slice (some ad44) (p.getD fn Fn.z).code.length c15), (32, .int .i64 ((p.getD fn Fn.z).code.length : Int)), (10, .slice A37 (imgL base att p.length (p.getD fn Fn.z).code k36).length c38), (33, .int .i64 (k36 : Int)), (14, .pointer (some ⟨b48, 0, none⟩)), (13, .int .i64 (k36 : Int)), (15, .int .i64 0), (16, .bool true), (17, .nilFunc), (45, .bool false)] ?_
      refine to_end rfl (tn_code (tc_cond_f (fun _ => rfl) (tc_skip (tn_code (tc_seq (tc_seq (tc_region ?_)))))))
      refine sg 2 [12, 31, 32, 10, 33, 14, 15, 54] [(12, .map (some r23)), (31, .slice (some ad44) (p.getD fn Fn.z).code.length c15), (32, .int .i64 ((p.getD fn Fn.z).code.length : Int)), (10, .slice A37 (imgL base att p.length (p.getD fn Fn.z).code k36).length c38), (33, .int .i64 (k36 : Int)), (14, .pointer (some ⟨b48, 0, none⟩)), (15, .int .i64 0), (54, .bool false)] ?_
      refine to_end rfl (tn_code (tc_cond_f (fun _ => rfl) (tc_skip (tn_code (tc_seq (tc_region ?_))))))
      refine la M52 0 56 ((p.getD fn Fn.z).code.getD k36 Inst.z).cs (hu := Try.underlying65) ?_
      refine sg 1 [12, 31, 32, 10, 33, 56, 57] [(12, .map (some r23)), (31, .slice (some ad44) (p.getD fn Fn.z).code.length c15), (32, .int .i64 ((p.getD fn Fn.z).code.length : Int)), (10, .slice A37 (imgL base att p.length (p.getD fn Fn.z).code k36).length c38), (33, .int .i64 (k36 : Int)), (56, .agg ((p.getD fn Fn.z).code.getD k36 Inst.z).cs), (57, .int .i64 0)] ?_
      refine cb M52 58 (iput_any ((p.getD fn Fn.z).code.getD k36 Inst.z) 0 _ (by omega)) fun w88 hb90 M89 => ?_
      refine sg 5 [12, 31, 32, 10, 33, 19] [(12, .map (some r23)), (31, .slice (some ad44) (p.getD fn Fn.z).code.length c15), (32, .int .i64 ((p.getD fn Fn.z).code.length : Int)), (10, .slice A37 (imgL base att p.length (p.getD fn Fn.z).code k36).length c38), (33, .int .i64 (k36 : Int)), (19, .int .u64 (putW ((p.getD fn Fn.z).code.getD k36 Inst.z) 0).1)] ?_
      refine to_end rfl (tn_code (tc_region ?_))
      refine sg 2 [12, 31, 32, 33, 61, 62] [(12, .map (some r23)), (31, .slice (some ad44) (p.getD fn Fn.z).code.length c15), (32, .int .i64 ((p.getD fn Fn.z).code.length : Int)), (33, .int .i64 (k36 : Int)), (61, .slice A37 (imgL base att p.length (p.getD fn Fn.z).code k36).length c38), (62, .int .u64 (putW ((p.getD fn Fn.z).code.getD k36 Inst.z) 0).1)] ?_
      refine bsF M89 63 kW 26 ([(putW ((p.getD fn Fn.z).code.getD k36 Inst.z) 0).1] : List Int) #[.int .u64 (putW ((p.getD fn Fn.z).code.getD k36 Inst.z) 0).1] (repW [(putW ((p.getD fn Fn.z).code.getD k36 Inst.z) 0).1]) (Nat.le_of_ble_eq_true rfl) fun b91 w92 M93 => ?_
      have M98 := M93.front 2 rfl
      refine ap (z := .int .u64 0) (bytes := 8) M98 64 Try.underlying25 ?_ fun A94 c95 w96 M97 => ?_
      · simp only [List.length_append, List.length_cons, List.length_nil, imgL_len]; omega
      refine sg 1 [12, 31, 32, 33, 10] [(12, .map (some r23)), (31, .slice (some ad44) (p.getD fn Fn.z).code.length c15), (32, .int .i64 ((p.getD fn Fn.z).code.length : Int)), (33, .int .i64 (k36 : Int)), (10, .slice A94 ((imgL base att p.length (p.getD fn Fn.z).code k36) ++ [(putW ((p.getD fn Fn.z).code.getD k36 Inst.z) 0).1]).length c95)] ?_
      refine to_end rfl (tn_blk (tn_code (tc_region ?_)))
      refine sg 2 [12, 31, 32, 33, 10] [(12, .map (some r23)), (31, .slice (some ad44) (p.getD fn Fn.z).code.length c15), (32, .int .i64 ((p.getD fn Fn.z).code.length : Int)), (33, .int .i64 (IntKind.wrap .i64 ((k36 : Int) + 1))), (10, .slice A94 ((imgL base att p.length (p.getD fn Fn.z).code k36) ++ [(putW ((p.getD fn Fn.z).code.getD k36 Inst.z) 0).1]).length c95)] ?_
      rw [show IntKind.wrap .i64 ((k36 : Int) + 1) = (((k36 + 1) : Nat) : Int) from wr_nat k36 1 (by omega)]
      refine to_end rfl ?_
      have M99 := M97.drop 1
      have hs100 : ((imgL base att p.length (p.getD fn Fn.z).code k36) ++ [(putW ((p.getD fn Fn.z).code.getD k36 Inst.z) 0).1]) = (imgL base att p.length (p.getD fn Fn.z).code (k36 + 1)) := imgL_next (imgTo0 h1_ hc53) rfl
      exact tn_back ((k36 + 1), A94, c95) (Sub.cons rfl (Sub.cons rfl (Sub.cons rfl (Sub.cons (by rw [← hs100]; rfl) (Sub.cons rfl (Sub.nil _)))))) ⟨by omega, imgOk_step hi40 (imgTo0 h1_ hc53) (rfl), (by rw [← hs100]; exact M99)⟩ (by omega)
  · have h43p := of_decide_eq_false h43
    refine tc_exitK (k' := _) rfl (tn_code (tc_seq (tc_region ?_)))
    refine sg 3 [8, 9] [(8, .slice A37 (imgL base att p.length (p.getD fn Fn.z).code k36).length c38), (9, .int .i64 0)] ?_
    refine to_end rfl (tn_code (tc_ret ?_))
    refine tr_tmp2 rfl rfl rfl ?_
    have he := codeI_yes (base := base) (att := att) (m := p.length) (l := (p.getD fn Fn.z).code) (by omega) hi40
    have hkl : k36 = (p.getD fn Fn.z).code.length := by omega
    subst hkl
    rw [he]
    exact ⟨_, _, rfl, (((((M42.drop 5).drop 4).drop 3).drop 2).drop 1)⟩
end Go.Proofs.Ytfknhbgghpbkpaa

/- Rows of words; what an image is. -/
namespace Go.Proofs.Ytfknhbgghpbkpaa
open Go.RowKit Cal Go.Proofs.YtfknhbgghpbkpaaW.PrintWords
def kWs : Kd (List Int) := Kd.slice 26 kW
theorem kWs_open {w : World} {x : List Int} {cs : List Value} (h : kWs.K w x cs) : ∃ A c, cs = [.slice A x.length c] ∧ x.length ≤ c ∧ kW.C w A x.length x := h
theorem kWs_M {x : List Int} {v : Value} {wr w : World} {L : List Ent} (M : Mem wr w (row kW 26 v x :: L)) : Mem wr w (owns kWs 0 x [v] :: L) := M.imp fun S _ h => ⟨v, rfl, h⟩
theorem flat_step (xss : List (List Int)) (k : Nat) (hk : k < xss.length) : (xss.take k).flatten ++ xss.getD k [] = (xss.take (k + 1)).flatten := by
  rw [take_step [] xss hk, List.flatten_append]; simp
/-- The beginnings of the codes. -/
def lensI (p : List Fn) (k : Nat) : Nat := ((p.take k).map fun f => f.code.length).sum
def sizeI (p : List Fn) : Int := if progMay p = true then ((p.length + lensI p p.length : Nat) : Int) else 0
theorem lensI_next (p : List Fn) (k : Nat) (hk : k < p.length) : lensI p (k + 1) = lensI p k + (p.getD k Fn.z).code.length := by
  unfold lensI; rw [take_step Fn.z p hk, List.map_append, List.sum_append]; simp
theorem lensI_le {p : List Fn} (h : progMay p = true) : ∀ k, k ≤ p.length → lensI p k ≤ 64 * k
  | 0, _ => by simp [lensI]
  | k + 1, hk => by
    have ih := lensI_le h k (by omega)
    have hm : p.getD k Fn.z ∈ p := at_mem Fn.z (by omega)
    have := fnMay_bd ((progMay_bd h).2.2.2 _ hm)
    rw [lensI_next p k (by omega)]
    omega
end Go.Proofs.Ytfknhbgghpbkpaa

/- Layer 14: size, join. -/
namespace Go.Proofs.Ytfknhbgghpbkpaa
open Go.RowKit Cal Go.Proofs.YtfknhbgghpbkpaaW.PrintWords
theorem flat_le (xss : List (List Int)) (k : Nat) : ((xss.take k).flatten).length ≤ xss.flatten.length := by
  have h : xss.flatten = (xss.take k).flatten ++ (xss.drop k).flatten := by rw [← List.flatten_append, List.take_append_drop]
  rw [h, List.length_append]; omega

theorem size_any (p : List Fn) (A : Option Addr) (c : Nat) (w : World) (hC : kFn.C w A p.length p) : Calls Try.prog 43 #[.agg #[.slice A p.length c]] w fun e w' => e = .returned (.int .i64 (sizeI p)) ∧ Below w.heap.size w w' := by
  have M := Mem.refl w
  have hmx := C_max hC
  refine calls_tc (N := 26) (args := [.agg #[.slice A p.length c]]) Try.func43 rfl rfl rfl ?_
  refine tc_seq (tc_region ?_)
  refine nw M 1 #[.slice A p.length c] 45 fun b1 w2 M3 => ?_
  refine sg 1 [1] [(1, .pointer (some ⟨b1, 0, none⟩))] ?_
  refine to_end rfl (tn_code (tc_seq (tc_seq (tc_region ?_))))
  refine la M3 0 6 #[.slice A p.length c] (hu := Try.underlying45) ?_
  refine cb M3 7 (pmay_any p A c _ (C_up M3 hC)) fun w4 hb6 M5 => ?_
  refine sg 1 [1, 8] [(1, .pointer (some ⟨b1, 0, none⟩)), (8, .bool (!(progMay p)))] ?_
  refine to_end rfl (tn_code ?_)
  rcases h7 : (progMay p : Bool) with _ | _
  · refine tc_cond_t (fun _ => rfl) (tc_seq (tc_region ?_))
    refine sg 1 [2] [(2, .int .i64 0)] ?_
    refine to_end rfl (tn_code (tc_ret ?_))
    refine tr_tmp rfl rfl ?_
    exact ⟨congrArg Ending.returned (congrArg (Value.int .i64) (if_neg (by rw [h7]; decide)).symm), M5.below⟩
  · refine tc_cond_f (fun _ => rfl) (tc_skip (tn_code (tc_seq (tc_region ?_))))
    refine sg 1 [1, 9] [(1, .pointer (some ⟨b1, 0, none⟩)), (9, .pointer (some ⟨b1, 0, none⟩))] ?_
    refine ld M5 0 10 (.slice A p.length c) ?_
    refine sg 2 [1, 3] [(1, .pointer (some ⟨b1, 0, none⟩)), (3, .int .i64 (p.length : Int))] ?_
    refine to_end rfl (tn_code (tc_seq (tc_seq (tc_region ?_))))
    refine sg 1 [3, 12] [(3, .int .i64 (p.length : Int)), (12, .pointer (some ⟨b1, 0, none⟩))] ?_
    refine ld M5 0 13 (.slice A p.length c) ?_
    refine sg 2 [3, 13, 14, 15] [(3, .int .i64 (p.length : Int)), (13, .slice A p.length c), (14, .int .i64 (p.length : Int)), (15, .int .i64 0)] ?_
    refine to_end rfl (tn_code (tc_block ?_))
    have hpb := progMay_bd h7
    have hlb := lensI_le h7
    refine tc_loop (σ := Nat) (fun s_ => match s_ with | k8 => [(13, .slice A p.length c), (14, .int .i64 (p.length : Int)), (15, .int .i64 (k8 : Int)), (3, .int .i64 ((p.length + lensI p k8 : Nat) : Int))]) (fun s_ w' => match s_ with | k8 => (k8 ≤ p.length) ∧ Mem w w' ([blk b1 #[.slice A p.length c] 45])) (fun s_ => match s_ with | k8 => p.length - k8) 0 (Sub.cons rfl (Sub.cons rfl (Sub.cons rfl (Sub.cons rfl (Sub.nil _))))) ⟨Nat.zero_le _, M5⟩ ?_
    rintro k8 w10 ⟨hi12, M11⟩
    have hq1 := hi12
    have hlk := hlb k8 hq1
    refine tc_seq (tc_region ?_)
    refine sg 1 [13, 14, 15, 3, 16] [(13, .slice A p.length c), (14, .int .i64 (p.length : Int)), (15, .int .i64 (k8 : Int)), (3, .int .i64 ((p.length + lensI p k8 : Nat) : Int)), (16, .bool (decide ((k8 : Int) < (p.length : Int))))] ?_
    refine to_end rfl (tn_code (tc_seq ?_))
    refine tc_cond (b := decide ((k8 : Int) < (p.length : Int))) (fun _ => rfl) (fun h13 => ?_) (fun h13 => ?_)
    · have h13p := of_decide_eq_true h13
      refine tc_skip (tn_code (tc_seq (tc_block (tc_seq (tc_region ?_)))))
      obtain ⟨ad14, rfl⟩ := C_some hC (k := k8) (by omega)
      refine ix (ad := ad14) (n := p.length) (c := c) 17 k8 2 (by omega) Try.underlying43 ?_
      obtain ⟨cs17, hk15, hc16⟩ := C_cell hC Fn.z k8 (by omega)
      obtain ⟨A18, c19, rfl, hl20, hC21⟩ := kFn_open hk15
      refine lea 18 #[.int .i64 (p.getD k8 Fn.z).args, .slice A18 (p.getD k8 Fn.z).code.length c19] (fun j u hj => cell_up M11 (hc16 j u hj)) (hu := Try.underlying57) ?_
      have hfk := fnMay_bd (hpb.2.2.2 _ (at_mem Fn.z (show k8 < p.length by omega)))
      refine nw M11 5 #[.int .i64 0, .slice none 0 0] 57 fun b22 w23 M24 => ?_
      refine sa M24 0 #[.int .i64 (p.getD k8 Fn.z).args, .slice A18 (p.getD k8 Fn.z).code.length c19] fun w25 M26 => ?_
      refine to_end rfl (tn_code (tc_region ?_))
      refine sg 2 [13, 14, 15, 19, 20] [(13, .slice (some ad14) p.length c), (14, .int .i64 (p.length : Int)), (15, .int .i64 (k8 : Int)), (19, .int .i64 ((p.length + lensI p k8 : Nat) : Int)), (20, .pointer (some ⟨b22, 1, none⟩))] ?_
      refine ld M26 0 21 (.slice A18 (p.getD k8 Fn.z).code.length c19) ?_
      refine sg 3 [13, 14, 15, 3] [(13, .slice (some ad14) p.length c), (14, .int .i64 (p.length : Int)), (15, .int .i64 (k8 : Int)), (3, .int .i64 (IntKind.wrap .i64 (((p.length + lensI p k8 : Nat) : Int) + ((p.getD k8 Fn.z).code.length : Int))))] ?_
      rw [wr_i64 (x := ((p.length + lensI p k8 : Nat) : Int) + ((p.getD k8 Fn.z).code.length : Int)) (by omega) (by omega)]
      refine to_end rfl (tn_blk (tn_code (tc_region ?_)))
      refine sg 2 [13, 14, 15, 3] [(13, .slice (some ad14) p.length c), (14, .int .i64 (p.length : Int)), (15, .int .i64 (IntKind.wrap .i64 ((k8 : Int) + 1))), (3, .int .i64 (((p.length + lensI p k8 : Nat) : Int) + ((p.getD k8 Fn.z).code.length : Int)))] ?_
      rw [show IntKind.wrap .i64 ((k8 : Int) + 1) = (((k8 + 1) : Nat) : Int) from wr_nat k8 1 (by omega)]
      refine to_end rfl ?_
      have M27 := M26.drop 0
      have hln := lensI_next p k8 (by omega)
      exact tn_back (s := k8) (k8 + 1) (Sub.cons rfl (Sub.cons rfl (Sub.cons rfl (Sub.cons (by show some (Value.int .i64 _) = some (Value.int .i64 _); rw [hln]; congr 2; omega) (Sub.nil _))))) ⟨by omega, M27⟩ (by simp only; omega)
    · have h13p := of_decide_eq_false h13
      refine tc_exitK (k' := _) rfl (tn_code (tc_seq (tc_region ?_)))
      refine sg 2 [2] [(2, .int .i64 ((p.length + lensI p k8 : Nat) : Int))] ?_
      refine to_end rfl (tn_code (tc_ret ?_))
      refine tr_tmp rfl rfl ?_
      have hkl : k8 = p.length := by omega
      exact ⟨congrArg Ending.returned (congrArg (Value.int .i64) (by rw [hkl]; exact (if_pos h7).symm)), M11.below⟩

theorem join_any (xss : List (List Int)) (A : Option Addr) (c : Nat) (w : World) (hC : kWs.C w A xss.length xss) (hb : xss.flatten.length ≤ 1000000) : Calls Try.prog 92 #[.slice A xss.length c] w fun e w' => ∃ A' c', e = .returned (.slice A' xss.flatten.length c') ∧ Mem w w' [row kW 26 (.slice A' xss.flatten.length c') xss.flatten] := by
  have M := Mem.refl w
  have hmx := C_max hC
  refine calls_tc (N := 17) (args := [.slice A xss.length c]) Try.func92 rfl rfl rfl ?_
  refine tc_seq (tc_region ?_)
  refine sg 1 [0] [(0, .slice A xss.length c)] ?_
  refine to_end rfl (tn_code (tc_seq (tc_region ?_)))
  refine sg 1 [0, 3] [(0, .slice A xss.length c), (3, .slice none 0 0)] ?_
  refine to_end rfl (tn_code (tc_seq (tc_seq (tc_region ?_))))
  refine sg 3 [3, 6, 7, 8] [(3, .slice none 0 0), (6, .slice A xss.length c), (7, .int .i64 (xss.length : Int)), (8, .int .i64 0)] ?_
  refine to_end rfl (tn_code (tc_block ?_))
  have M1 := M.nilrow kW 26
  refine tc_loop (σ := Nat × Option Addr × Nat) (fun s_ => match s_ with | (k3, A4, c5) => [(6, .slice A xss.length c), (7, .int .i64 (xss.length : Int)), (3, .slice A4 (List.take k3 xss).flatten.length c5), (8, .int .i64 (k3 : Int))]) (fun s_ w' => match s_ with | (k3, A4, c5) => k3 ≤ xss.length ∧ True ∧ Mem w w' ([row kW 26 (.slice A4 (List.take k3 xss).flatten.length c5) (List.take k3 xss).flatten])) (fun s_ => xss.length - s_.1) (0, none, 0) (Sub.cons rfl (Sub.cons rfl (Sub.cons rfl (Sub.cons rfl (Sub.nil _))))) ⟨Nat.zero_le _, trivial, M1⟩ ?_
  rintro ⟨k3, A4, c5⟩ w8 ⟨hk6, hi7, M9⟩
  refine tc_seq (tc_region ?_)
  refine sg 1 [6, 7, 3, 8, 9] [(6, .slice A xss.length c), (7, .int .i64 (xss.length : Int)), (3, .slice A4 (List.take k3 xss).flatten.length c5), (8, .int .i64 (k3 : Int)), (9, .bool (decide ((k3 : Int) < (xss.length : Int))))] ?_
  refine to_end rfl (tn_code (tc_seq ?_))
  refine tc_cond (b := decide ((k3 : Int) < (xss.length : Int))) (fun _ => rfl) (fun h10 => ?_) (fun h10 => ?_)
  · have h10p := of_decide_eq_true h10
    refine tc_skip (tn_code (tc_seq (tc_block (tc_seq (tc_region ?_)))))
    obtain ⟨ad11, rfl⟩ := C_some hC (k := k3) (by omega)
    refine ix (ad := ad11) (n := xss.length) (c := c) 10 k3 1 (by omega) Try.underlying131 ?_
    obtain ⟨cs14, hk12, hc13⟩ := C_cell hC ([] : List Int) k3 (by omega)
    obtain ⟨A15, c16, rfl, hl17, hC18⟩ := kWs_open hk12
    refine le 11 (.slice A15 (xss.getD k3 ([] : List Int)).length c16) (cell_up M9 (hc13 0 _ rfl)) ?_
    refine sg 1 [6, 7, 3, 8, 5] [(6, .slice (some ad11) xss.length c), (7, .int .i64 (xss.length : Int)), (3, .slice A4 (List.take k3 xss).flatten.length c5), (8, .int .i64 (k3 : Int)), (5, .slice A15 (xss.getD k3 ([] : List Int)).length c16)] ?_
    refine to_end rfl (tn_code (tc_region ?_))
    refine sg 2 [6, 7, 8, 12, 13] [(6, .slice (some ad11) xss.length c), (7, .int .i64 (xss.length : Int)), (8, .int .i64 (k3 : Int)), (12, .slice A4 (List.take k3 xss).flatten.length c5), (13, .slice A15 (xss.getD k3 ([] : List Int)).length c16)] ?_
    refine apC (z := .int .u64 0) (bytes := 8) (c := c16) M9 14 flatW (C_up M9 hC18) Try.underlying25 ?_ fun A19 c20 w21 M22 => ?_
    · have hf1 := flat_le xss k3; have hf2 := flat_le xss (k3 + 1); rw [← flat_step xss k3 (by omega), List.length_append] at hf2; omega
    refine sg 1 [6, 7, 8, 3] [(6, .slice (some ad11) xss.length c), (7, .int .i64 (xss.length : Int)), (8, .int .i64 (k3 : Int)), (3, .slice A19 ((List.take k3 xss).flatten ++ (xss.getD k3 ([] : List Int))).length c20)] ?_
    refine to_end rfl (tn_blk (tn_code (tc_region ?_)))
    refine sg 2 [6, 7, 8, 3] [(6, .slice (some ad11) xss.length c), (7, .int .i64 (xss.length : Int)), (8, .int .i64 (IntKind.wrap .i64 ((k3 : Int) + 1))), (3, .slice A19 ((List.take k3 xss).flatten ++ (xss.getD k3 ([] : List Int))).length c20)] ?_
    rw [show IntKind.wrap .i64 ((k3 : Int) + 1) = (((k3 + 1) : Nat) : Int) from wr_nat k3 1 (by omega)]
    refine to_end rfl ?_
    have hs23 : ((List.take k3 xss).flatten ++ (xss.getD k3 ([] : List Int))) = (List.take (k3 + 1) xss).flatten := flat_step xss k3 (by omega)
    exact tn_back ((k3 + 1), A19, c20) (Sub.cons rfl (Sub.cons rfl (Sub.cons (by rw [← hs23]; rfl) (Sub.cons rfl (Sub.nil _))))) ⟨by omega, trivial, (by rw [← hs23]; exact M22)⟩ (by omega)
  · have h10p := of_decide_eq_false h10
    refine tc_exitK (k' := _) rfl (tn_code (tc_seq (tc_region ?_)))
    refine sg 2 [2] [(2, .slice A4 (List.take k3 xss).flatten.length c5)] ?_
    refine to_end rfl (tn_code (tc_ret ?_))
    refine tr_tmp rfl rfl ?_
    have hkl : List.take k3 xss = xss := List.take_of_length_le (by omega)
    have hM := M9
    rw [hkl] at hM
    exact ⟨_, _, by rw [hkl], hM⟩
end Go.Proofs.Ytfknhbgghpbkpaa

/- What an image is; a row of two rows of words. -/
namespace Go.Proofs.Ytfknhbgghpbkpaa
open Go.RowKit Cal Go.Proofs.YtfknhbgghpbkpaaW.PrintWords
def SW : Shp (List Int) Int where
  d := kWs
  dI := kW
  eI := 26
  z := []
  h := 0
  hd _ := []
  inn x := x
  hdl _ := rfl
  hd1 _ u hu := by cases hu
  sz := rfl
  opn h := by
    obtain ⟨A, c, rfl, hl, hC⟩ := kWs_open h
    exact ⟨A, c, rfl, hl, hC⟩
  mak hl hC := ⟨_, _, rfl, hl, hC⟩
  flat := flatW
theorem rep2 (A B : Option Addr) (n m c e : Nat) : Reps (fun x cs => ∀ w' ok, (kRawG 0).M w' 0 ok x cs) (kRawG 0).sz ([([], A, n, c), ([], B, m, e)] : List RawG) [.slice A n c, .slice B m e] := by
  refine ⟨rfl, fun j p hj w' ok => ?_⟩
  match j with
  | 0 => simp only [List.getElem?_cons_zero, Option.some.injEq] at hj; subst hj; exact ⟨rfl, rfl, fun u hu => by cases hu⟩
  | 1 => simp only [List.getElem?_cons_succ, List.getElem?_cons_zero, Option.some.injEq] at hj; subst hj; exact ⟨rfl, rfl, fun u hu => by cases hu⟩
  | j + 2 => simp at hj
theorem two_C {w : World} {X A B : Option Addr} {c e : Nat} {xs ys : List Int} (h : (kRawG 0).C w X 2 ([([], A, xs.length, c), ([], B, ys.length, e)] : List RawG)) (h1 : kW.C w A xs.length xs) (l1 : xs.length ≤ c) (h2 : kW.C w B ys.length ys) (l2 : ys.length ≤ e) : kWs.C w X 2 [xs, ys] :=
  raw_CG (S := SW) (vs := [([], A, xs.length, c), ([], B, ys.length, e)]) (fs := [xs, ys]) h rfl fun j hj => by
    match j with
    | 0 => exact ⟨rfl, rfl, l1, h1⟩
    | 1 => exact ⟨rfl, rfl, l2, h2⟩
    | j + 2 => exact absurd hj (by show ¬ j + 2 < 2; omega)
theorem sizeI_bd (p : List Fn) : 0 ≤ sizeI p ∧ sizeI p ≤ 1000 := by
  unfold sizeI
  split
  · rename_i h
    have h1 := progMay_bd h
    have h2 := lensI_le h p.length (Nat.le_refl _)
    omega
  · omega
def attI (p : List Fn) (base : Int) (k : Nat) : Int := base + ((p.length + lensI p k : Nat) : Int)
def cI (p : List Fn) (base : Int) (k : Nat) : List Int × Int := codeI base (attI p base k) p.length (p.getD k Fn.z).code
def doorsI (p : List Fn) (base : Int) (k : Nat) : List Int := (List.range k).map fun j => doorW (attI p base j)
def codesI (p : List Fn) (base : Int) (k : Nat) : List (List Int) := (List.range k).map fun j => (cI p base j).1
/-- An image. -/
def imageI (p : List Fn) (base : Int) : List Int × Int :=
  if progMay p = true ∧ 0 ≤ base ∧ base ≤ 1024 - sizeI p then (if ∀ k, k < p.length → (cI p base k).2 = 0 then (doorsI p base p.length ++ (codesI p base p.length).flatten, 0) else ([], 8)) else ([], 1)
theorem doorsI_next (p : List Fn) (base : Int) (k : Nat) : doorsI p base (k + 1) = doorsI p base k ++ [doorW (attI p base k)] := by unfold doorsI; rw [List.range_succ, List.map_append]; rfl
theorem codesI_next (p : List Fn) (base : Int) (k : Nat) : codesI p base (k + 1) = codesI p base k ++ [(cI p base k).1] := by unfold codesI; rw [List.range_succ, List.map_append]; rfl
theorem doorsI_len (p : List Fn) (base : Int) (k : Nat) : (doorsI p base k).length = k := by simp [doorsI]
theorem codesI_len (p : List Fn) (base : Int) (k : Nat) : (codesI p base k).length = k := by simp [codesI]
theorem cI_err (p : List Fn) (base : Int) (k : Nat) : (cI p base k).2 = 0 ∨ (cI p base k).2 = 8 := by
  unfold cI codeI; split
  · exact .inl rfl
  · exact .inr rfl
theorem cI_len (p : List Fn) (base : Int) (k : Nat) : (cI p base k).1.length ≤ (p.getD k Fn.z).code.length := by
  unfold cI codeI; split
  · rw [imgL_len]; exact Nat.le_refl _
  · exact Nat.zero_le _
theorem attI_next (p : List Fn) (base : Int) (k : Nat) (hk : k < p.length) : attI p base (k + 1) = attI p base k + ((p.getD k Fn.z).code.length : Int) := by unfold attI; rw [lensI_next p k hk]; omega
theorem codesI_flat (p : List Fn) (base : Int) : ∀ k, k ≤ p.length → (codesI p base k).flatten.length ≤ lensI p k
  | 0, _ => Nat.zero_le _
  | k + 1, h => by
    have ih := codesI_flat p base k (by omega)
    have := cI_len p base k
    rw [codesI_next, List.flatten_append, List.length_append, lensI_next p k (by omega)]
    simp only [List.flatten_cons, List.flatten_nil, List.append_nil]
    omega
theorem imageI_no {p : List Fn} {base : Int} (h : progMay p = false ∨ base < 0 ∨ base > 1024 - sizeI p) : imageI p base = ([], 1) := by
  unfold imageI
  rw [if_neg]
  rintro ⟨h1, h2, h3⟩
  rcases h with h | h | h
  · rw [h1] at h; cases h
  · omega
  · omega
theorem imageI_bad {p : List Fn} {base : Int} {k : Nat} (hm : progMay p = true) (h0 : 0 ≤ base) (h1 : base ≤ 1024 - sizeI p) (hk : k < p.length) (he : (cI p base k).2 ≠ 0) : imageI p base = ([], (cI p base k).2) := by
  unfold imageI
  rw [if_pos ⟨hm, h0, h1⟩, if_neg fun h => he (h k hk)]
  rcases cI_err p base k with h | h
  · exact absurd h he
  · rw [h]
theorem imageI_ok {p : List Fn} {base : Int} {k : Nat} (hm : progMay p = true) (h0 : 0 ≤ base) (h1 : base ≤ 1024 - sizeI p) (hk : p.length ≤ k) (he : ∀ j, j < k → (cI p base j).2 = 0) : imageI p base = (doorsI p base p.length ++ (codesI p base p.length).flatten, 0) := by
  unfold imageI
  rw [if_pos ⟨hm, h0, h1⟩, if_pos fun j hj => he j (by omega)]
end Go.Proofs.Ytfknhbgghpbkpaa

/- Layer 14: Make. -/
namespace Go.Proofs.Ytfknhbgghpbkpaa
open Go.RowKit Cal Go.Proofs.YtfknhbgghpbkpaaW.PrintWords
theorem c0_step {f : Nat → List Int × Int} {k : Nat} (h : ∀ j, j < k → (f j).2 = 0) (e : (f k).2 = 0) : ∀ j, j < k + 1 → (f j).2 = 0 := fun j hj => by
  rcases Nat.lt_succ_iff_lt_or_eq.1 hj with h1 | h1
  · exact h j h1
  · subst h1; exact e

theorem make_any (p : List Fn) (A : Option Addr) (c : Nat) (base : Int) (w : World) (hC : kFn.C w A p.length p) (hop : ∀ f ∈ p, f.ok) : Calls Try.prog 42 #[.agg #[.slice A p.length c], .int .i64 base] w fun e w' => ∃ A' c', e = .returned (.tuple #[.slice A' (imageI p base).1.length c', .int .i64 (imageI p base).2]) ∧ Mem w w' [row kW 26 (.slice A' (imageI p base).1.length c') (imageI p base).1] := by
  have M := Mem.refl w
  have hmx := C_max hC
  have hsb := sizeI_bd p
  refine calls_tc (N := 71) (args := [.agg #[.slice A p.length c], .int .i64 base]) Try.func42 rfl rfl rfl ?_
  refine tc_seq (tc_region ?_)
  refine nw M 2 #[.slice A p.length c] 45 fun b1 w2 M3 => ?_
  refine sg 2 [1, 2] [(1, .int .i64 base), (2, .pointer (some ⟨b1, 0, none⟩))] ?_
  refine to_end rfl (tn_code (tc_seq (tc_seq (tc_region ?_))))
  refine la M3 0 13 #[.slice A p.length c] (hu := Try.underlying45) ?_
  refine cb M3 14 (pmay_any p A c _ (C_up M3 hC)) fun w4 hb6 M5 => ?_
  refine sg 2 [1, 2, 16] [(1, .int .i64 base), (2, .pointer (some ⟨b1, 0, none⟩)), (16, .bool (!(progMay p)))] ?_
  rcases h7 : (progMay p : Bool) with _ | _
  · refine sg 10 [1, 2, 26] [(1, .int .i64 base), (2, .pointer (some ⟨b1, 0, none⟩)), (26, .bool true)] ?_
    refine to_end rfl (tn_code (tc_cond_t (fun _ => rfl) (tc_seq (tc_region ?_))))
    refine sg 2 [4, 5] [(4, .slice none 0 0), (5, .int .i64 1)] ?_
    refine to_end rfl (tn_code (tc_ret ?_))
    refine tr_tmp2 rfl rfl rfl ?_
    have he : imageI p base = ([], 1) := imageI_no (.inl h7)
    rw [he]
    exact ⟨none, 0, rfl, ((M5.drop 0)).nilrow kW 26⟩
  · refine sg 4 [1, 2, 20] [(1, .int .i64 base), (2, .pointer (some ⟨b1, 0, none⟩)), (20, .bool (decide (base < 0)))] ?_
    rcases h8 : (decide (base < 0) : Bool) with _ | _
    · have h8p := of_decide_eq_false h8
      refine sg 1 [1, 2, 20, 21] [(1, .int .i64 base), (2, .pointer (some ⟨b1, 0, none⟩)), (20, .bool false), (21, .int .i64 base)] ?_
      have hpb0 := progMay_bd h7
      refine la M5 0 22 #[.slice A p.length c] (hu := Try.underlying45) ?_
      refine cb M5 23 (size_any p A c _ (C_up M5 hC)) fun w9 hb11 M10 => ?_
      refine sg 1 [1, 2, 20, 21, 24] [(1, .int .i64 base), (2, .pointer (some ⟨b1, 0, none⟩)), (20, .bool false), (21, .int .i64 base), (24, .int .i64 (IntKind.wrap .i64 (1024 - (sizeI p))))] ?_
      rw [wr_i64 (x := 1024 - (sizeI p)) (by omega) (by omega)]
      refine sg 2 [1, 2, 26] [(1, .int .i64 base), (2, .pointer (some ⟨b1, 0, none⟩)), (26, .bool (decide (base > (1024 - (sizeI p)))))] ?_
      refine to_end rfl (tn_code ?_)
      refine tc_cond (b := decide (base > (1024 - (sizeI p)))) (fun _ => rfl) (fun h12 => ?_) (fun h12 => ?_)
      · have h12p := of_decide_eq_true h12
        refine tc_seq (tc_region ?_)
        refine sg 2 [4, 5] [(4, .slice none 0 0), (5, .int .i64 1)] ?_
        refine to_end rfl (tn_code (tc_ret ?_))
        refine tr_tmp2 rfl rfl rfl ?_
        have he : imageI p base = ([], 1) := imageI_no (by first | exact .inr (.inl (by omega)) | exact .inr (.inr (by omega)))
        rw [he]
        exact ⟨none, 0, rfl, ((M10.drop 0)).nilrow kW 26⟩
      · have h12p := of_decide_eq_false h12
        refine tc_skip (tn_code (tc_seq (tc_region ?_)))
        refine sg 1 [1, 2, 6] [(1, .int .i64 base), (2, .pointer (some ⟨b1, 0, none⟩)), (6, .slice none 0 0)] ?_
        refine to_end rfl (tn_code (tc_seq (tc_region ?_)))
        refine sg 1 [1, 2, 6, 7] [(1, .int .i64 base), (2, .pointer (some ⟨b1, 0, none⟩)), (6, .slice none 0 0), (7, .slice none 0 0)] ?_
        refine to_end rfl (tn_code (tc_seq (tc_region ?_)))
        refine sg 2 [1, 2, 6, 7, 27, 28] [(1, .int .i64 base), (2, .pointer (some ⟨b1, 0, none⟩)), (6, .slice none 0 0), (7, .slice none 0 0), (27, .int .i64 base), (28, .pointer (some ⟨b1, 0, none⟩))] ?_
        refine ld M10 0 29 (.slice A p.length c) ?_
        refine sg 3 [1, 2, 6, 7, 8] [(1, .int .i64 base), (2, .pointer (some ⟨b1, 0, none⟩)), (6, .slice none 0 0), (7, .slice none 0 0), (8, .int .i64 (IntKind.wrap .i64 (base + (p.length : Int))))] ?_
        rw [wr_i64 (x := base + (p.length : Int)) (by omega) (by omega)]
        refine to_end rfl (tn_code (tc_seq (tc_seq (tc_region ?_))))
        refine sg 1 [1, 2, 6, 7, 8, 32] [(1, .int .i64 base), (2, .pointer (some ⟨b1, 0, none⟩)), (6, .slice none 0 0), (7, .slice none 0 0), (8, .int .i64 (base + (p.length : Int))), (32, .pointer (some ⟨b1, 0, none⟩))] ?_
        refine ld M10 0 33 (.slice A p.length c) ?_
        refine sg 2 [1, 2, 6, 7, 8, 33, 34, 35] [(1, .int .i64 base), (2, .pointer (some ⟨b1, 0, none⟩)), (6, .slice none 0 0), (7, .slice none 0 0), (8, .int .i64 (base + (p.length : Int))), (33, .slice A p.length c), (34, .int .i64 (p.length : Int)), (35, .int .i64 0)] ?_
        refine to_end rfl (tn_code (tc_block ?_))
        have hpb := progMay_bd h7
        have hlb := lensI_le h7
        have hsz : sizeI p = ((p.length + lensI p p.length : Nat) : Int) := if_pos h7
        have M13 := M10.nilrow kWs 25
        have M14 := M13.nilrow kW 26
        refine tc_loop (σ := Nat × Option Addr × Nat × Option Addr × Nat) (fun s_ => match s_ with | (k15, A16, c17, A18, c19) => [(1, .int .i64 base), (2, .pointer (some ⟨b1, 0, none⟩)), (33, .slice A p.length c), (34, .int .i64 (p.length : Int)), (35, .int .i64 (k15 : Int)), (6, .slice A16 (doorsI p base k15).length c17), (7, .slice A18 (codesI p base k15).length c19), (8, .int .i64 (attI p base k15))]) (fun s_ w' => match s_ with | (k15, A16, c17, A18, c19) => (k15 ≤ p.length ∧ (∀ j, j < k15 → (cI p base j).2 = 0)) ∧ Mem w w' ([row kW 26 (.slice A16 (doorsI p base k15).length c17) (doorsI p base k15), row kWs 25 (.slice A18 (codesI p base k15).length c19) (codesI p base k15), blk b1 #[.slice A p.length c] 45])) (fun s_ => match s_ with | (k15, A16, c17, A18, c19) => p.length - k15) (0, none, 0, none, 0) (Sub.cons rfl (Sub.cons rfl (Sub.cons rfl (Sub.cons rfl (Sub.cons rfl (Sub.cons rfl (Sub.cons rfl (Sub.cons (by rw [show attI p base 0 = base + (p.length : Int) from by unfold attI lensI; simp]; rfl) (Sub.nil _))))))))) ⟨⟨Nat.zero_le _, fun j hj => absurd hj (Nat.not_lt_zero _)⟩, M14⟩ ?_
        rintro ⟨k15, A16, c17, A18, c19⟩ w23 ⟨hi25, M24⟩
        obtain ⟨hq1, hq2⟩ := hi25
        have hlk := hlb k15 hq1
        have hattb : 0 ≤ attI p base k15 ∧ attI p base k15 ≤ 100000 := by unfold attI; omega
        have hdl := doorsI_len p base k15
        have hcl := codesI_len p base k15
        refine tc_seq (tc_region ?_)
        refine sg 1 [1, 2, 33, 34, 35, 6, 7, 8, 36] [(1, .int .i64 base), (2, .pointer (some ⟨b1, 0, none⟩)), (33, .slice A p.length c), (34, .int .i64 (p.length : Int)), (35, .int .i64 (k15 : Int)), (6, .slice A16 (doorsI p base k15).length c17), (7, .slice A18 (codesI p base k15).length c19), (8, .int .i64 (attI p base k15)), (36, .bool (decide ((k15 : Int) < (p.length : Int))))] ?_
        refine to_end rfl (tn_code (tc_seq ?_))
        refine tc_cond (b := decide ((k15 : Int) < (p.length : Int))) (fun _ => rfl) (fun h26 => ?_) (fun h26 => ?_)
        · have h26p := of_decide_eq_true h26
          refine tc_skip (tn_code (tc_seq (tc_block (tc_seq (tc_region ?_)))))
          refine sg 1 [1, 2, 33, 34, 35, 6, 7, 8, 37] [(1, .int .i64 base), (2, .pointer (some ⟨b1, 0, none⟩)), (33, .slice A p.length c), (34, .int .i64 (p.length : Int)), (35, .int .i64 (k15 : Int)), (6, .slice A16 (doorsI p base k15).length c17), (7, .slice A18 (codesI p base k15).length c19), (8, .int .i64 (attI p base k15)), (37, .int .i64 (k15 : Int))] ?_
          obtain ⟨ad27, rfl⟩ := C_some hC (k := k15) (by omega)
          refine ix (ad := ad27) (n := p.length) (c := c) 38 k15 2 (by omega) Try.underlying43 ?_
          obtain ⟨cs30, hk28, hc29⟩ := C_cell hC Fn.z k15 (by omega)
          obtain ⟨A31, c32, rfl, hl33, hC34⟩ := kFn_open hk28
          refine lea 39 #[.int .i64 (p.getD k15 Fn.z).args, .slice A31 (p.getD k15 Fn.z).code.length c32] (fun j u hj => cell_up M24 (hc29 j u hj)) (hu := Try.underlying57) ?_
          have hfk0 := hpb.2.2.2 _ (at_mem Fn.z (show k15 < p.length by omega))
          have hfk := fnMay_bd hfk0
          refine nw M24 10 #[.int .i64 0, .slice none 0 0] 57 fun b35 w36 M37 => ?_
          refine sg 1 [1, 2, 33, 34, 35, 6, 7, 8, 39, 10, 9] [(1, .int .i64 base), (2, .pointer (some ⟨b1, 0, none⟩)), (33, .slice (some ad27) p.length c), (34, .int .i64 (p.length : Int)), (35, .int .i64 (k15 : Int)), (6, .slice A16 (doorsI p base k15).length c17), (7, .slice A18 (codesI p base k15).length c19), (8, .int .i64 (attI p base k15)), (39, .agg #[.int .i64 (p.getD k15 Fn.z).args, .slice A31 (p.getD k15 Fn.z).code.length c32]), (10, .pointer (some ⟨b35, 0, none⟩)), (9, .int .i64 (k15 : Int))] ?_
          refine sa M37 0 #[.int .i64 (p.getD k15 Fn.z).args, .slice A31 (p.getD k15 Fn.z).code.length c32] fun w38 M39 => ?_
          refine to_end rfl (tn_code (tc_seq (tc_region ?_)))
          refine la M39 3 41 #[.slice (some ad27) p.length c] (hu := Try.underlying45) ?_
          refine sg 3 [1, 2, 33, 34, 35, 6, 7, 8, 10, 41, 42, 43, 44] [(1, .int .i64 base), (2, .pointer (some ⟨b1, 0, none⟩)), (33, .slice (some ad27) p.length c), (34, .int .i64 (p.length : Int)), (35, .int .i64 (k15 : Int)), (6, .slice A16 (doorsI p base k15).length c17), (7, .slice A18 (codesI p base k15).length c19), (8, .int .i64 (attI p base k15)), (10, .pointer (some ⟨b35, 0, none⟩)), (41, .agg #[.slice (some ad27) p.length c]), (42, .int .i64 (k15 : Int)), (43, .int .i64 base), (44, .int .i64 (attI p base k15))] ?_
          refine ce 45 (show Calls Try.prog 90 _ _ (fun e w' => ∃ A' c', e = .returned (.tuple #[.slice A' (cI p base k15).1.length c', .int .i64 (cI p base k15).2]) ∧ Mem _ w' [row kW 26 (.slice A' (cI p base k15).1.length c') (cI p base k15).1]) from imgcode_any p (some ad27) c k15 base (attI p base k15) _ (C_up M39 hC) (by omega) (by omega) (by omega) hattb hfk0 (hop _ (at_mem Fn.z (by omega)))) fun e40 w41 h42 => ?_
          obtain ⟨A43, c44, rfl, hM45⟩ := h42
          have M46 := M39.join hM45
          refine ⟨_, rfl, ?_⟩
          refine sg 5 [1, 2, 33, 34, 35, 6, 7, 8, 10, 11, 12] [(1, .int .i64 base), (2, .pointer (some ⟨b1, 0, none⟩)), (33, .slice (some ad27) p.length c), (34, .int .i64 (p.length : Int)), (35, .int .i64 (k15 : Int)), (6, .slice A16 (doorsI p base k15).length c17), (7, .slice A18 (codesI p base k15).length c19), (8, .int .i64 (attI p base k15)), (10, .pointer (some ⟨b35, 0, none⟩)), (11, .slice A43 (cI p base k15).1.length c44), (12, .int .i64 (cI p base k15).2)] ?_
          refine to_end rfl (tn_code (tc_seq (tc_seq (tc_region ?_))))
          refine sg 2 [1, 2, 33, 34, 35, 6, 7, 8, 10, 11, 12, 49] [(1, .int .i64 base), (2, .pointer (some ⟨b1, 0, none⟩)), (33, .slice (some ad27) p.length c), (34, .int .i64 (p.length : Int)), (35, .int .i64 (k15 : Int)), (6, .slice A16 (doorsI p base k15).length c17), (7, .slice A18 (codesI p base k15).length c19), (8, .int .i64 (attI p base k15)), (10, .pointer (some ⟨b35, 0, none⟩)), (11, .slice A43 (cI p base k15).1.length c44), (12, .int .i64 (cI p base k15).2), (49, .bool ((cI p base k15).2 != 0))] ?_
          refine to_end rfl (tn_code ?_)
          refine tc_cond (b := (cI p base k15).2 != 0) (fun _ => rfl) (fun h47 => ?_) (fun h47 => ?_)
          · have h47p := bne_iff_ne.1 h47
            refine tc_seq (tc_region ?_)
            refine sg 3 [4, 5] [(4, .slice none 0 0), (5, .int .i64 (cI p base k15).2)] ?_
            refine to_end rfl (tn_code (tc_ret ?_))
            refine tr_tmp2 rfl rfl rfl ?_
            have he := imageI_bad (base := base) h7 (by omega) (by omega) (show k15 < p.length by omega) (bne_iff_ne.1 h47)
            rw [he]
            exact ⟨none, 0, rfl, ((((((M46.drop 4).drop 3).drop 2).drop 1).drop 0)).nilrow kW 26⟩
          · have h47p := bne_eq_false_iff_eq.1 h47
            refine tc_skip (tn_code (tc_seq (tc_region ?_)))
            refine sg 2 [1, 2, 33, 34, 35, 7, 8, 10, 11, 51, 52] [(1, .int .i64 base), (2, .pointer (some ⟨b1, 0, none⟩)), (33, .slice (some ad27) p.length c), (34, .int .i64 (p.length : Int)), (35, .int .i64 (k15 : Int)), (7, .slice A18 (codesI p base k15).length c19), (8, .int .i64 (attI p base k15)), (10, .pointer (some ⟨b35, 0, none⟩)), (11, .slice A43 (cI p base k15).1.length c44), (51, .slice A16 (doorsI p base k15).length c17), (52, .int .i64 (attI p base k15))] ?_
            refine cb M46 53 (door_any (attI p base k15) _) fun w48 hb50 M49 => ?_
            refine bsF M49 54 kW 26 ([(doorW (attI p base k15))] : List Int) #[.int .u64 (doorW (attI p base k15))] (repW [(doorW (attI p base k15))]) (Nat.le_of_ble_eq_true rfl) fun b51 w52 M53 => ?_
            have M58 := M53.front 3 rfl
            refine ap (z := .int .u64 0) (bytes := 8) M58 55 Try.underlying25 ?_ fun A54 c55 w56 M57 => ?_
            · simp only [List.length_append, List.length_cons, List.length_nil, List.length_take]; omega
            refine sg 2 [1, 2, 33, 34, 35, 8, 10, 55, 56, 57] [(1, .int .i64 base), (2, .pointer (some ⟨b1, 0, none⟩)), (33, .slice (some ad27) p.length c), (34, .int .i64 (p.length : Int)), (35, .int .i64 (k15 : Int)), (8, .int .i64 (attI p base k15)), (10, .pointer (some ⟨b35, 0, none⟩)), (55, .slice A54 ((doorsI p base k15) ++ [(doorW (attI p base k15))]).length c55), (56, .slice A18 (codesI p base k15).length c19), (57, .slice A43 (cI p base k15).1.length c44)] ?_
            have M62 := M57.front 1 rfl
            have M63 := kWs_M M62
            refine bs1 (x := ((cI p base k15).1 : List Int)) (cs := #[.slice A43 (cI p base k15).1.length c44]) M63 58 25 fun b59 w60 M61 => ?_
            have M68 := M61.front 3 rfl
            refine ap (z := .slice none 0 0) (bytes := 24) M68 59 Try.underlying131 ?_ fun A64 c65 w66 M67 => ?_
            · simp only [List.length_append, List.length_cons, List.length_nil, List.length_take]; omega
            refine sg 2 [1, 2, 33, 34, 35, 8, 10, 6, 7] [(1, .int .i64 base), (2, .pointer (some ⟨b1, 0, none⟩)), (33, .slice (some ad27) p.length c), (34, .int .i64 (p.length : Int)), (35, .int .i64 (k15 : Int)), (8, .int .i64 (attI p base k15)), (10, .pointer (some ⟨b35, 0, none⟩)), (6, .slice A54 ((doorsI p base k15) ++ [(doorW (attI p base k15))]).length c55), (7, .slice A64 ((codesI p base k15) ++ [((cI p base k15).1 : List Int)]).length c65)] ?_
            refine to_end rfl (tn_code (tc_region ?_))
            refine sg 2 [1, 2, 33, 34, 35, 6, 7, 60, 61] [(1, .int .i64 base), (2, .pointer (some ⟨b1, 0, none⟩)), (33, .slice (some ad27) p.length c), (34, .int .i64 (p.length : Int)), (35, .int .i64 (k15 : Int)), (6, .slice A54 ((doorsI p base k15) ++ [(doorW (attI p base k15))]).length c55), (7, .slice A64 ((codesI p base k15) ++ [((cI p base k15).1 : List Int)]).length c65), (60, .int .i64 (attI p base k15)), (61, .pointer (some ⟨b35, 1, none⟩))] ?_
            refine ld M67 2 62 (.slice A31 (p.getD k15 Fn.z).code.length c32) ?_
            refine sg 3 [1, 2, 33, 34, 35, 6, 7, 8] [(1, .int .i64 base), (2, .pointer (some ⟨b1, 0, none⟩)), (33, .slice (some ad27) p.length c), (34, .int .i64 (p.length : Int)), (35, .int .i64 (k15 : Int)), (6, .slice A54 ((doorsI p base k15) ++ [(doorW (attI p base k15))]).length c55), (7, .slice A64 ((codesI p base k15) ++ [((cI p base k15).1 : List Int)]).length c65), (8, .int .i64 (IntKind.wrap .i64 ((attI p base k15) + ((p.getD k15 Fn.z).code.length : Int))))] ?_
            rw [wr_i64 (x := (attI p base k15) + ((p.getD k15 Fn.z).code.length : Int)) (by omega) (by omega)]
            refine to_end rfl (tn_blk (tn_code (tc_region ?_)))
            refine sg 2 [1, 2, 33, 34, 35, 6, 7, 8] [(1, .int .i64 base), (2, .pointer (some ⟨b1, 0, none⟩)), (33, .slice (some ad27) p.length c), (34, .int .i64 (p.length : Int)), (35, .int .i64 (IntKind.wrap .i64 ((k15 : Int) + 1))), (6, .slice A54 ((doorsI p base k15) ++ [(doorW (attI p base k15))]).length c55), (7, .slice A64 ((codesI p base k15) ++ [((cI p base k15).1 : List Int)]).length c65), (8, .int .i64 ((attI p base k15) + ((p.getD k15 Fn.z).code.length : Int)))] ?_
            rw [show IntKind.wrap .i64 ((k15 : Int) + 1) = (((k15 + 1) : Nat) : Int) from wr_nat k15 1 (by omega)]
            refine to_end rfl ?_
            have M71 := M67.drop 2
            have M72 := M71.front 2 rfl
            have M73 := M72.front 1 rfl
            have M74 := M73.front 2 rfl
            have hs69 : ((doorsI p base k15) ++ [(doorW (attI p base k15))]) = doorsI p base (k15 + 1) := (doorsI_next p base k15).symm
            have hs70 : ((codesI p base k15) ++ [((cI p base k15).1 : List Int)]) = codesI p base (k15 + 1) := (codesI_next p base k15).symm
            have hm_ := M74
            rw [hs69, hs70] at hm_
            exact tn_back (s := (k15, A16, c17, A18, c19)) (k15 + 1, A54, c55, A64, c65) (Sub.cons rfl (Sub.cons rfl (Sub.cons rfl (Sub.cons rfl (Sub.cons rfl (Sub.cons (by rw [← hs69]; rfl) (Sub.cons (by rw [← hs70]; rfl) (Sub.cons (by rw [attI_next p base k15 (by omega)]; rfl) (Sub.nil _))))))))) ⟨⟨by omega, c0_step hq2 (bne_eq_false_iff_eq.1 h47)⟩, hm_⟩ (by simp only; omega)
        · have h26p := of_decide_eq_false h26
          refine tc_exitK (k' := _) rfl (tn_code (tc_seq (tc_region ?_)))
          refine sg 2 [66, 67] [(66, .slice A16 (doorsI p base k15).length c17), (67, .slice A18 (codesI p base k15).length c19)] ?_
          refine ce 68 (join_any (codesI p base k15) A18 c19 _ (M24.row_C 1 rfl) (by (have hcf := codesI_flat p base k15 hq1; omega))) fun e75 w76 h77 => ?_
          obtain ⟨A78, c79, rfl, hM80⟩ := h77
          have M81 := M24.join hM80
          refine ⟨_, rfl, ?_⟩
          refine bsF M81 69 (kRawG 0) 25 ([([], A16, (doorsI p base k15).length, c17), ([], A78, (codesI p base k15).flatten.length, c79)] : List RawG) #[.slice A16 (doorsI p base k15).length c17, .slice A78 (codesI p base k15).flatten.length c79] (rep2 _ _ _ _ _ _) (by show (2 : Nat) ≤ 9223372036854775807; omega) fun b82 w83 M84 => ?_
          refine ce 70 (join_any [(doorsI p base k15), (codesI p base k15).flatten] (some ⟨b82, 0, none⟩) 2 _ (two_C (M84.row_C 0 rfl) (M84.row_C 2 rfl) (M84.row_cap 2 rfl) (M84.row_C 1 rfl) (M84.row_cap 1 rfl)) (by (have hcf := codesI_flat p base k15 hq1; simp only [List.flatten_cons, List.flatten_nil, List.append_nil, List.length_append]; omega))) fun e85 w86 h87 => ?_
          obtain ⟨A88, c89, rfl, hM90⟩ := h87
          have M91 := M84.join hM90
          refine ⟨_, rfl, ?_⟩
          refine sg 2 [4, 5] [(4, .slice A88 ([(doorsI p base k15), (codesI p base k15).flatten].flatten.length) c89), (5, .int .i64 0)] ?_
          refine to_end rfl (tn_code (tc_ret ?_))
          refine tr_tmp2 rfl rfl rfl ?_
          have he := imageI_ok (base := base) h7 (by omega) (by omega) (show p.length ≤ k15 by omega) hq2
          have hkp : k15 = p.length := by omega
          subst hkp
          have hM := (((((M91.drop 5).drop 4).drop 3).drop 2).drop 1)
          rw [he]
          simp only [List.flatten_cons, List.flatten_nil, List.append_nil] at hM ⊢
          exact ⟨_, _, rfl, hM⟩
    · have h8p := of_decide_eq_true h8
      refine sg 6 [1, 2, 26] [(1, .int .i64 base), (2, .pointer (some ⟨b1, 0, none⟩)), (26, .bool true)] ?_
      refine to_end rfl (tn_code (tc_cond_t (fun _ => rfl) (tc_seq (tc_region ?_))))
      refine sg 2 [4, 5] [(4, .slice none 0 0), (5, .int .i64 1)] ?_
      refine to_end rfl (tn_code (tc_ret ?_))
      refine tr_tmp2 rfl rfl rfl ?_
      have he : imageI p base = ([], 1) := imageI_no (by first | exact .inr (.inl (by omega)) | exact .inr (.inr (by omega)))
      rw [he]
      exact ⟨none, 0, rfl, ((M5.drop 0)).nilrow kW 26⟩
end Go.Proofs.Ytfknhbgghpbkpaa
