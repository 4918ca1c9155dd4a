/- Several texts in one. -/
import Derived.Test.YtfknhbgghpbkpaaJoin
import Derived.Test.YtfknhbgghpbkpaaApart
import Derived.Laws.IdiomCopy
/- Arrays by value: the address of an element, an element of a value, copy between rows of any size; a table of patterns as cells. -/
namespace Go.Proofs.Ytfknhbgghpbkpaa
open Go.RowKit Cal Go.Proofs.YtfknhbgghpbkpaaW.PrintWords
namespace Cal
section
variable {P : Program}
theorem run_indexA {w : World} {T e : TypeId} {kk : IntKind} {a : Addr} {n x sz : Nat} (hu : P.underlying T = some (.array n e)) (hs : (P.info? e).map (·.size) = some sz) (hx : x < n) :
    (Instr.indexAt T (.pointer (some a)) (.int kk (x : Int))).run P w = .ok (.pointer (some (a.add (x * sz)))) w := by
  cases hq : P.info? e with
  | none => simp [hq] at hs
  | some inf =>
    have h1 : inf.size = sz := by simpa [hq] using hs
    simp [Instr.indexAt, asIntOf, Instr.sureAddr, Sem.run_bind, run_underlying hu w, sizeOf, typeInfo, hq, h1]
    intro h; omega
/-- copy, from one block's cells to another's. -/
theorem run_copyN (w : World) (dT sT ty elem : TypeId) (b o dLen dCap : Nat) (a : Addr) (sLen sCap s : Nat) (cs : List Value)
    (hu : P.underlying dT = some (.slice elem)) (hs : (P.info? elem).map (·.size) = some s) (hn : cs.length = Nat.min sLen dLen * s)
    (hsrc : ∀ j v, cs[j]? = some v → w.cell? (a.add j) = some v) (hc : ∀ j, j < cs.length → (w.cell? ⟨b, o + j, none⟩).isSome = true) (hf : ∀ j, j < cs.length → w.frozen? ⟨b, o + j, none⟩ = false) (h1 : ∀ v ∈ cs, v.oneCell' = true) :
    (Builtin.copy_ #[dT, sT] ty #[.slice (some ⟨b, o, none⟩) dLen dCap, .slice (some a) sLen sCap]).run P w = .ok (goInt (Nat.min sLen dLen)) (w.setCells b o cs) := by
  have hl := run_loadCells_list (P := P) w a cs hsrc
  have hst := run_storeCells_cells (P := P) b o cs 0 w (by simpa using hc) (by simpa using hf) h1
  cases hq : P.info? elem with
  | none => simp [hq] at hs
  | some i =>
    have hi : i.size = s := by simpa [hq] using hs
    simp [Builtin.copy_, run_underlying hu, Builtin.lenOf, Builtin.firstCells, sizeOf, typeInfo, hq, hi, ← hn, hl, hst]
end
section
variable {P : Program} {N : Nat} {dm : List Deferred} {Q : Exit → Act → World → Prop} {k : List It} {fr : Fr} {wr w : World} {L : List Ent}
/-- The address of an element of an array. -/
theorem ixA {all : Array Oper} {i : Nat} {o : Oper} {b n0 n : Nat} {kk : IntKind} (d : Nat) (q sz : Nat) (hq : q < n) {T e : TypeId} (hu : P.underlying T = some (.array n e)) (h : TO dm P N Q all k ((d, .pointer (some ⟨b, n0 + q * sz, none⟩)) :: fr) w (i + 1)) {x y : Operand}
    (ho : all.toList[i]? = some o := by rfl) (hd : o.dst = some d := by rfl) (hop : o.op = .indexAddr T x y := by rfl) (hw : ∀ j, Region.wanted o (yl N all j fr) = true := by intro j; rfl)
    (hx : ∀ j, ev j fr x = .pointer (some ⟨b, n0, none⟩) := by intro j; rfl) (hy : ∀ j, ev j fr y = .int kk (q : Int) := by intro j; rfl) (hs : (P.info? e).map (·.size) = some sz := by kernel_rfl) (hN : Nat.blt d N = true := by rfl) : TO dm P N Q all k fr w i := by
  refine to_op ho hw (v := .pointer (some ⟨b, n0 + q * sz, none⟩)) (fun j => ?_) (by unfold put1; rw [hd]; simp only [hN, cond_true]) h
  unfold execOp
  simp only [hop, hx j, hy j, Sem.run_bind, run_indexA hu hs hq, Result.andThen_ok, Sem.run_pure]
  simp [Addr.add]
end
end Cal
/-! ### patterns -/
abbrev Pat := Int × Int × Bool
def pat3 (p : Pat) : List Value := [.int .i64 p.1, .int .i64 p.2.1, .bool p.2.2]
def patC (l : List Pat) : List Value := l.flatMap pat3
def patA (l : List Pat) : Array Value := (patC l).toArray
def patZ : Pat := (0, 0, false)
theorem patC_len : ∀ l : List Pat, (patC l).length = l.length * 3
  | [] => rfl
  | p :: l => by
    show (pat3 p ++ patC l).length = _
    rw [List.length_append, patC_len l, List.length_cons]
    show 3 + l.length * 3 = _
    omega
theorem splice_list : ∀ (vs : List Value) (cs : Array Value) (n : Nat), n + vs.length ≤ cs.size → splice cs n vs = (cs.toList.take n ++ vs ++ cs.toList.drop (n + vs.length)).toArray
  | [], cs, n, _ => by simp [splice, List.take_append_drop]
  | v :: vs, cs, n, h => by
    rw [splice, splice_list vs _ _ (by simp at h ⊢; omega)]
    congr 1
    simp only [Array.toList_setIfInBounds, List.length_cons]
    have hn : n < cs.toList.length := by simp at h ⊢; omega
    rw [List.take_add_one, List.getElem?_set_self hn, List.take_set_of_le (Nat.le_refl n), List.drop_set_of_lt (by omega)]
    simp [show n + (vs.length + 1) = n + 1 + vs.length by omega]
theorem patC_set : ∀ (l : List Pat) (i : Nat) (p : Pat), i < l.length → (patC l).take (i * 3) ++ pat3 p ++ (patC l).drop (i * 3 + 3) = patC (l.set i p)
  | q :: l, 0, p, _ => by
    show [] ++ pat3 p ++ (pat3 q ++ patC l).drop 3 = pat3 p ++ patC l
    rw [List.nil_append]; rfl
  | q :: l, i + 1, p, h => by
    have ih := patC_set l i p (by simpa using h)
    show (pat3 q ++ patC l).take ((i + 1) * 3) ++ pat3 p ++ (pat3 q ++ patC l).drop ((i + 1) * 3 + 3) = pat3 q ++ patC (l.set i p)
    rw [← ih, show (i + 1) * 3 = 3 + i * 3 by omega, show 3 + i * 3 + 3 = 3 + (i * 3 + 3) by omega]
    simp [pat3, List.take_cons, Nat.add_comm 3]
theorem splice_pat {l : List Pat} {i : Nat} (p : Pat) (h : i < l.length) : splice (patA l) (i * 3) (pat3 p) = patA (l.set i p) := by
  rw [splice_list _ _ _ (by simp [patA, patC_len, pat3]; omega)]
  unfold patA
  rw [← patC_set l i p h]
  rfl
/-- The first loop's table behind k rounds. -/
def pat1 : Nat → List Pat
  | 0 => List.replicate 40 patZ
  | k + 1 => ((pat1 k).set (2 * k) (0, (k : Int), false)).set (2 * k + 1) (0, (k : Int), true)
def pat2 (k : Nat) : List Pat := ((List.range k).foldl (fun l f => (l.set (22 + 2 * (f + 1) - 1) (1, ((f + 1 : Nat) : Int), false)).set (22 + 2 * (f + 1)) (1, ((f + 1 : Nat) : Int), true)) ((pat1 11).set 22 (1, 0, false)))
def patR : List Pat := [(2, 0, false), (2, 0, true), (3, 0, false), (3, 0, true), (4, 0, false), (4, 0, true), (5, 0, false), (6, 0, false), (7, 0, false)]
def patT : List Pat := (pat2 4).take 31 ++ patR
theorem pat1_len : ∀ k, (pat1 k).length = 40
  | 0 => by simp [pat1]
  | k + 1 => by simp [pat1, pat1_len k]
theorem pat2_len (k : Nat) : (pat2 k).length = 40 := by
  unfold pat2
  induction k with
  | zero => simp [pat1_len]
  | succ k ih => rw [List.range_succ, List.foldl_append]; simp only [List.foldl_cons, List.foldl_nil, List.length_set]; exact ih
theorem pat2_succ (k : Nat) : pat2 (k + 1) = ((pat2 k).set (22 + 2 * (k + 1) - 1) (1, ((k + 1 : Nat) : Int), false)).set (22 + 2 * (k + 1)) (1, ((k + 1 : Nat) : Int), true) := by
  unfold pat2
  rw [List.range_succ, List.foldl_append]; rfl
theorem patT_len : patT.length = 40 := by decide
end Go.Proofs.Ytfknhbgghpbkpaa

/- isa.patterns: the table. -/
namespace Go.Proofs.Ytfknhbgghpbkpaa
open Go.RowKit Cal Go.Proofs.YtfknhbgghpbkpaaW.PrintWords
namespace Cal
theorem exec_copy {P : Program} {ρ : Operand → Value} {o : Oper} {t t2 : TypeId} {s x : Operand} {u1 u2 v' : Value} {w w' : World} (hop : o.op = .call { callee := .builtin .copy, args := #[s, x], argTypes := #[t, t2] }) (h1 : ρ s = u1) (h2 : ρ x = u2)
    (hr : (Builtin.copy_ #[t, t2] o.type #[u1, u2]).run P w = .ok v' w') : (execOp ρ o).run P w = .ok (.value v') w' := by
  subst h1 h2
  unfold execOp
  simp only [hop, resolve, invoke, builtin, Sem.run_bind, Sem.run_pure, Result.andThen_ok, List.map_toArray, List.map_cons, List.map_nil, hr]
section
variable {P : Program} {N : Nat} {dm : List Deferred} {Q : Exit → Act → World → Prop} {fr : Fr} {wr w : World} {L : List Ent} {all : Array Oper} {S : World → Prop} {ds : List Nat} {fuel : Nat} {listed : Array Bool}
/-- copy into a block of one's own, out of another. -/
theorem te_copy {i : Nat} {o : Oper} (M : Mem wr w L) (p q : Nat) (dst : Nat) {b o1 n c b2 n2 c2 s : Nat} {cs vs : Array Value} {tb t2 elem : TypeId} (cs' : Array Value) {t : TypeId} (hu : P.underlying t = some (.slice elem))
    (hSk : ∀ w', Mem wr w' (L.set p (blk b cs' tb)) → i ∉ ds → S w → S w') (h : ∀ w', Mem wr w' (L.set p (blk b cs' tb)) → TY dm P N Q all S ds fuel (listed.setIfInBounds i true) ((dst, .int .i64 (Nat.min n2 n : Nat)) :: fr) w') {x y : Operand} {tt : TypeId}
    (ho : all[i]? = some o := by rfl) (hd : o.dst = some dst := by rfl) (hop : o.op = .call { callee := .builtin .copy, args := #[x, y], argTypes := #[t, tt] } := by rfl) (hw : ∀ j, Region.wanted o (yl N all j fr) = true := by intro j; rfl)
    (hx : ∀ j, ev j fr x = .slice (some ⟨b, o1, none⟩) n c := by intro j; rfl) (hy : ∀ j, ev j fr y = .slice (some ⟨b2, 0, none⟩) n2 c2 := by intro j; rfl) (hp : L[p]? = some (blk b cs tb) := by rfl) (hq : L[q]? = some (blk b2 vs t2) := by rfl)
    (hs : (P.info? elem).map (·.size) = some s := by kernel_rfl) (hn : vs.size = Nat.min n2 n * s := by rfl) (hfit : Nat.ble (o1 + vs.size) cs.size = true := by rfl) (h1 : vs.all (·.oneCell') = true := by kernel_rfl) (hcs : splice cs o1 vs.toList = cs' := by kernel_rfl) (hN : Nat.blt dst N = true := by rfl) : TE dm P N Q all S ds fuel listed fr w i := by
  have hb := M.blk_at p hp
  have hb2 := M.blk_at q hq
  have hfit := Nat.le_of_ble_eq_true hfit
  have hr := run_copyN (P := P) w t tt o.type elem b o1 n c ⟨b2, 0, none⟩ n2 c2 s vs.toList hu hs (by rw [Array.length_toList]; exact hn) (fun j v hv => by rw [add0]; exact (blk_cell hb2 j).trans (by simpa using hv))
    (fun j hj => by rw [blk_cell hb, Array.getElem?_eq_getElem (by simp at hj; omega)]; rfl) (fun j _ => blk_frozen hb _) (by rw [Array.all_eq_true'] at h1; exact fun u hu => h1 u (by simpa using hu))
  have M' := M.sets p vs.toList o1 hp
  rw [hcs] at M'
  exact te_op dst _ (fun j => exec_copy hop (hx j) (hy j) hr) (hSk _ M') (h _ M') ho hd hw hN
end
end Cal
theorem patA_size (l : List Pat) : (patA l).size = l.length * 3 := by simp [patA, patC_len]
theorem wr2 (k : Nat) (h : k ≤ 1000) : IntKind.wrap .i64 (2 * (k : Int)) = ((2 * k : Nat) : Int) := by rw [wr_i64 (by omega) (by omega)]; omega
set_option maxRecDepth 10000 in
theorem patterns_any (w : World) : Calls Try.prog 93 #[] w fun e w' => e = .returned (.agg (patA patT)) ∧ Below w.heap.size w w' := by
  have M := Mem.refl w
  refine calls_tc (N := 60) (args := []) Try.func93 rfl rfl rfl ?_
  refine tc_seq (tc_region ?_)
  refine nw M 0 (patA (pat1 0)) 137 fun b0 w0 M0 => ?_
  refine to_end rfl (tn_code (tc_seq (tc_region ?_)))
  refine nw M0 1 (patA (pat1 0)) 137 fun b1 w1 M1 => ?_
  refine to_end rfl (tn_code (tc_seq (tc_seq (tc_region ?_))))
  refine sg 1 [0, 1, 6] [(0, .pointer (some ⟨b0, 0, none⟩)), (1, .pointer (some ⟨b1, 0, none⟩)), (6, .int .i64 0)] ?_
  refine to_end rfl (tn_code (tc_block ?_))
  refine tc_loop (σ := Nat) (fun k => [(0, .pointer (some ⟨b0, 0, none⟩)), (1, .pointer (some ⟨b1, 0, none⟩)), (6, .int .i64 (k : Int))]) (fun k w' => k ≤ 11 ∧ Mem w w' [blk b1 (patA (pat1 k)) 137, blk b0 (patA (pat1 0)) 137]) (fun k => 11 - k) 0 (Sub.cons rfl (Sub.cons rfl (Sub.cons rfl (Sub.nil _)))) ⟨by omega, M1⟩ ?_
  rintro k w2 ⟨hk, M2⟩
  refine tc_seq (tc_region ?_)
  refine sg 1 [0, 1, 6, 7] [(0, .pointer (some ⟨b0, 0, none⟩)), (1, .pointer (some ⟨b1, 0, none⟩)), (6, .int .i64 (k : Int)), (7, .bool (decide ((k : Int) < 11)))] ?_
  refine to_end rfl (tn_code (tc_seq ?_))
  refine tc_cond (b := decide ((k : Int) < 11)) (fun _ => rfl) (fun h => ?_) (fun h => ?_)
  · have hp := of_decide_eq_true h
    refine tc_skip (tn_code (tc_seq (tc_block (tc_seq (tc_region ?_)))))
    refine sg 2 [0, 1, 6, 2] [(0, .pointer (some ⟨b0, 0, none⟩)), (1, .pointer (some ⟨b1, 0, none⟩)), (6, .int .i64 (k : Int)), (2, .int .i64 (k : Int))] ?_
    refine to_end rfl (tn_code (tc_region ?_))
    refine sg 9 [0, 1, 6, 10, 13, 15, 17] [(0, .pointer (some ⟨b0, 0, none⟩)), (1, .pointer (some ⟨b1, 0, none⟩)), (6, .int .i64 (k : Int)), (10, .int .i64 (IntKind.wrap .i64 (2 * (k : Int)))), (13, .int .i64 (IntKind.wrap .i64 (IntKind.wrap .i64 (2 * (k : Int)) + 1))), (15, .agg #[.int .i64 0, .int .i64 (k : Int), .bool false]), (17, .agg #[.int .i64 0, .int .i64 (k : Int), .bool true])] ?_
    rw [wr2 k (by omega), show IntKind.wrap .i64 (((2 * k : Nat) : Int) + 1) = ((2 * k + 1 : Nat) : Int) from wr_nat (2 * k) 1 (by omega)]
    refine ixA (n := 40) 18 (2 * k) 3 (by omega) Try.underlying137 ?_
    refine sa (hn := Nat.ble_eq_true_of_le (by rw [patA_size, pat1_len]; show 0 + 2 * k * 3 + 3 ≤ 120; omega)) (hcs := by rw [Nat.zero_add]; exact splice_pat (0, (k : Int), false) (by rw [pat1_len]; omega)) M2 0 (patA ((pat1 k).set (2 * k) (0, (k : Int), false))) fun w3 M3 => ?_
    refine ixA (n := 40) 19 (2 * k + 1) 3 (by omega) Try.underlying137 ?_
    refine sa (hn := Nat.ble_eq_true_of_le (by rw [patA_size, List.length_set, pat1_len]; show 0 + (2 * k + 1) * 3 + 3 ≤ 120; omega)) (hcs := by rw [Nat.zero_add]; exact splice_pat (0, (k : Int), true) (by rw [List.length_set, pat1_len]; omega)) M3 0 (patA (pat1 (k + 1))) fun w4 M4 => ?_
    refine to_end rfl (tn_blk (tn_code (tc_region ?_)))
    refine sg 2 [0, 1, 6] [(0, .pointer (some ⟨b0, 0, none⟩)), (1, .pointer (some ⟨b1, 0, none⟩)), (6, .int .i64 (IntKind.wrap .i64 ((k : Int) + 1)))] ?_
    rw [show IntKind.wrap .i64 ((k : Int) + 1) = (((k + 1) : Nat) : Int) from wr_nat k 1 (by omega)]
    refine to_end rfl ?_
    exact tn_back (k + 1) (Sub.cons rfl (Sub.cons rfl (Sub.cons rfl (Sub.nil _)))) ⟨by omega, M4⟩ (by omega)
  have hp := of_decide_eq_false h
  obtain rfl : k = 11 := by omega
  refine tc_exitK (k' := _) rfl (tn_code (tc_seq (tc_region ?_)))
  refine sg 1 [0, 1, 3] [(0, .pointer (some ⟨b0, 0, none⟩)), (1, .pointer (some ⟨b1, 0, none⟩)), (3, .int .i64 22)] ?_
  refine to_end rfl (tn_code (tc_seq (tc_region ?_)))
  refine sg 2 [0, 1, 3, 21, 22] [(0, .pointer (some ⟨b0, 0, none⟩)), (1, .pointer (some ⟨b1, 0, none⟩)), (3, .int .i64 22), (21, .int .i64 ((22 : Nat) : Int)), (22, .agg #[.int .i64 1, .int .i64 0, .bool false])] ?_
  refine ixA (n := 40) 23 22 3 (by omega) Try.underlying137 ?_
  refine sa (hn := Nat.ble_eq_true_of_le (by rw [patA_size, pat1_len]; show 0 + 22 * 3 + 3 ≤ 120; omega)) (hcs := by rw [Nat.zero_add]; exact splice_pat (1, 0, false) (by rw [pat1_len]; omega)) M2 0 (patA (pat2 0)) fun w3 M3 => ?_
  refine to_end rfl (tn_code (tc_seq (tc_seq (tc_region ?_))))
  refine sg 1 [0, 1, 3, 4] [(0, .pointer (some ⟨b0, 0, none⟩)), (1, .pointer (some ⟨b1, 0, none⟩)), (3, .int .i64 22), (4, .int .i64 ((0 + 1 : Nat) : Int))] ?_
  refine to_end rfl (tn_code (tc_block ?_))
  refine tc_loop (σ := Nat) (fun k => [(0, .pointer (some ⟨b0, 0, none⟩)), (1, .pointer (some ⟨b1, 0, none⟩)), (3, .int .i64 22), (4, .int .i64 ((k + 1 : Nat) : Int))]) (fun k w' => k ≤ 4 ∧ Mem w w' [blk b1 (patA (pat2 k)) 137, blk b0 (patA (pat1 0)) 137]) (fun k => 4 - k) 0 (Sub.cons rfl (Sub.cons rfl (Sub.cons rfl (Sub.cons rfl (Sub.nil _))))) ⟨by omega, M3⟩ ?_
  clear h hp M3 M2 hk
  rintro k w2 ⟨hk, M2⟩
  refine tc_seq (tc_seq (tc_region ?_))
  refine sg 2 [0, 1, 3, 4, 25] [(0, .pointer (some ⟨b0, 0, none⟩)), (1, .pointer (some ⟨b1, 0, none⟩)), (3, .int .i64 22), (4, .int .i64 ((k + 1 : Nat) : Int)), (25, .bool (decide (((k + 1 : Nat) : Int) < 5)))] ?_
  refine to_end rfl (tn_code ?_)
  refine tc_cond (b := decide (((k + 1 : Nat) : Int) < 5)) (fun _ => rfl) (fun h => ?_) (fun h => ?_)
  · have hp := of_decide_eq_true h
    refine tc_skip (tn_code (tc_seq (tc_block (tc_region ?_))))
    refine sg 13 [0, 1, 3, 4, 32, 36, 38, 40] [(0, .pointer (some ⟨b0, 0, none⟩)), (1, .pointer (some ⟨b1, 0, none⟩)), (3, .int .i64 22), (4, .int .i64 ((k + 1 : Nat) : Int)), (32, .int .i64 (IntKind.wrap .i64 (IntKind.wrap .i64 (22 + IntKind.wrap .i64 (2 * ((k + 1 : Nat) : Int))) - 1))), (36, .int .i64 (IntKind.wrap .i64 (22 + IntKind.wrap .i64 (2 * ((k + 1 : Nat) : Int))))), (38, .agg #[.int .i64 1, .int .i64 ((k + 1 : Nat) : Int), .bool false]), (40, .agg #[.int .i64 1, .int .i64 ((k + 1 : Nat) : Int), .bool true])] ?_
    have e1 : IntKind.wrap .i64 (22 + IntKind.wrap .i64 (2 * ((k + 1 : Nat) : Int))) = ((22 + 2 * (k + 1) : Nat) : Int) := by rw [wr2 (k + 1) (by omega), wr_i64 (by omega) (by omega)]; omega
    have e2 : IntKind.wrap .i64 (((22 + 2 * (k + 1) : Nat) : Int) - 1) = ((22 + 2 * (k + 1) - 1 : Nat) : Int) := by rw [wr_i64 (by omega) (by omega)]; omega
    rw [e1, e2]
    refine ixA (n := 40) 41 (22 + 2 * (k + 1) - 1) 3 (by omega) Try.underlying137 ?_
    refine sa (hn := Nat.ble_eq_true_of_le (by rw [patA_size, pat2_len]; show 0 + (22 + 2 * (k + 1) - 1) * 3 + 3 ≤ 120; omega)) (hcs := by rw [Nat.zero_add]; exact splice_pat (1, ((k + 1 : Nat) : Int), false) (by rw [pat2_len]; omega)) M2 0 (patA ((pat2 k).set (22 + 2 * (k + 1) - 1) (1, ((k + 1 : Nat) : Int), false))) fun w3 M3 => ?_
    refine ixA (n := 40) 42 (22 + 2 * (k + 1)) 3 (by omega) Try.underlying137 ?_
    refine sa (hn := Nat.ble_eq_true_of_le (by rw [patA_size, List.length_set, pat2_len]; show 0 + (22 + 2 * (k + 1)) * 3 + 3 ≤ 120; omega)) (hcs := by rw [Nat.zero_add, pat2_succ]; exact splice_pat (1, ((k + 1 : Nat) : Int), true) (by rw [List.length_set, pat2_len]; omega)) M3 0 (patA (pat2 (k + 1))) fun w4 M4 => ?_
    refine to_end rfl (tn_blk (tn_code (tc_region ?_)))
    refine sg 3 [0, 1, 3, 4] [(0, .pointer (some ⟨b0, 0, none⟩)), (1, .pointer (some ⟨b1, 0, none⟩)), (3, .int .i64 22), (4, .int .i64 (IntKind.wrap .i64 (((k + 1 : Nat) : Int) + 1)))] ?_
    rw [show IntKind.wrap .i64 (((k + 1 : Nat) : Int) + 1) = (((k + 1 + 1) : Nat) : Int) from wr_nat (k + 1) 1 (by omega)]
    refine to_end rfl ?_
    exact tn_back (k + 1) (Sub.cons rfl (Sub.cons rfl (Sub.cons rfl (Sub.cons rfl (Sub.nil _))))) ⟨by omega, M4⟩ (by omega)
  have hp := of_decide_eq_false h
  obtain rfl : k = 4 := by omega
  refine tc_exitK (k' := _) rfl (tn_code (tc_seq (tc_region ?_)))
  refine sg 10 [0, 1, 3, 52] [(0, .pointer (some ⟨b0, 0, none⟩)), (1, .pointer (some ⟨b1, 0, none⟩)), (3, .int .i64 22), (52, .agg (patA patR))] ?_
  refine nw M2 5 (patA (List.replicate 9 patZ)) 193 fun b5 w5 M5 => ?_
  refine sa M5 0 (patA patR) fun w6 M6 => ?_
  refine to_end rfl (tn_code (tc_seq ?_))
  refine tc_drawL (fun _ => True) [] (by kernel_rfl) ?_
  have M7 := M6.draw
  refine ty_take 0 53 (.int .i64 22) (pok_cont pok_body) ?_ trivial (fun _ _ _ => by kernel_rfl)
  refine ty_take 1 54 (.int .i64 32) (pok_cont pok_body) ?_ trivial (fun _ _ _ => by kernel_rfl)
  refine ty_take 2 55 (.int .i64 31) (pok_cont pok_body) ?_ trivial (fun _ _ _ => by kernel_rfl)
  refine ty_take 3 56 (.slice (some ⟨b1, 93, none⟩) 9 9) (pok_cont pok_body) ?_ trivial (fun _ _ _ => by kernel_rfl)
  refine ty_take 4 57 (.slice (some ⟨b5, 0, none⟩) 9 9) (pok_cont pok_body) ?_ trivial (fun _ _ _ => by kernel_rfl)
  refine ty_all (rs := [5]) (te_one ?_)
  refine te_copy M7 1 0 58 (s := 3) (patA patT) Try.underlying194 (fun _ _ _ h_ => h_) fun w8 M8 => ?_
  refine ty_endL ?_
  refine tn_code (tc_seq (tc_region ?_))
  refine la M8 1 59 (patA patT) (hu := Try.underlying137) ?_
  refine sa M8 2 (patA patT) fun w9 M9 => ?_
  refine to_end rfl (tn_code (tc_ret ?_))
  refine tr_cell M9 2 rfl rfl rfl Try.underlying137 rfl (by kernel_rfl) ?_
  exact ⟨rfl, M9.below⟩
end Go.Proofs.Ytfknhbgghpbkpaa

/- isa.Code: the number of an instruction's pattern. -/
namespace Go.Proofs.Ytfknhbgghpbkpaa
open Go.RowKit Cal Go.Proofs.YtfknhbgghpbkpaaW.PrintWords
def patV (p : Pat) : Array Value := #[.int .i64 p.1, .int .i64 p.2.1, .bool p.2.2]
theorem patC_get : ∀ (l : List Pat) (k : Nat), k < l.length → ((patC l).drop (k * 3)).take 3 = pat3 (l.getD k patZ)
  | p :: l, 0, _ => by
    show (pat3 p ++ patC l).take 3 = pat3 p
    rfl
  | p :: l, k + 1, h => by
    show ((pat3 p ++ patC l).drop ((k + 1) * 3)).take 3 = pat3 (l.getD k patZ)
    rw [← patC_get l k (by simpa using h), show (k + 1) * 3 = 3 + k * 3 by omega, ← List.drop_drop]
    rfl
theorem patA_ext {l : List Pat} {k : Nat} (h : k < l.length) : (patA l).extract (k * 3) (k * 3 + 3) = patV (l.getD k patZ) := by
  apply Array.toList_inj.1
  rw [Array.toList_extract]
  show (patC l).extract (k * 3) (k * 3 + 3) = pat3 (l.getD k patZ)
  rw [List.extract_eq_take_drop, Nat.add_sub_cancel_left, patC_get l k h]
theorem eqIn_pat (p q : Pat) (w : World) : (Op.equalIn 10000 136 (.agg (patV p)) (.agg (patV q))).run Try.prog w = .ok (decide (p = q)) w := by
  rw [show (10000 : Nat) = 9999 + 1 from rfl, run_equalIn_agg w 9999 136 (patV p) (patV q) (by kernel_rfl) (by kernel_rfl)]
  simp only [Program.fieldsOf, Try.underlying136]
  rw [show (9999 : Nat) = 9998 + 1 from rfl]
  rw [eqF_int (k := .i64) (k' := .i64) (a := p.1) (b := q.1) (by decide) (by kernel_rfl) rfl rfl (by kernel_rfl),
    eqF_int (k := .i64) (k' := .i64) (a := p.2.1) (b := q.2.1) (by decide) (by kernel_rfl) rfl rfl (by kernel_rfl),
    eqF_bool (a := p.2.2) (b := q.2.2) (by decide) (by kernel_rfl) rfl rfl (by kernel_rfl)]
  have hxy : (p = q) ↔ (p.1 = q.1 ∧ p.2.1 = q.2.1 ∧ p.2.2 = q.2.2) := by
    obtain ⟨a, b, c⟩ := p; obtain ⟨d, e, f⟩ := q; simp
  have hnil : (Op.eqFields (9998 + 1) (patV p) (patV q) []).run Try.prog w = .ok true w := by simp [Op.eqFields]
  rw [hnil]
  by_cases h : p = q
  · have h' := hxy.1 h
    simp only [h, decide_true, if_true]
  · simp only [h, decide_false]
    rw [hxy] at h
    split <;> try rfl
    split <;> try rfl
    split <;> try rfl
    rename_i h1 h2 h3
    exact absurd ⟨h1, h2, h3⟩ h
theorem eql_pat (p q : Pat) (w : World) : (binOp .eql 136 (.agg (patV p)) (.agg (patV q))).run Try.prog w = .ok (.bool (decide (p = q))) w := by
  rw [run_eql_struct, eqIn_pat]; rfl
namespace Cal
theorem run_idxV {P : Program} {w : World} {T e : TypeId} {kk : IntKind} {l : List Pat} {n k : Nat} (hu : P.underlying T = some (.array n e)) (hg : (isAgg e).run P w = .ok true w) (hs : (P.info? e).map (·.size) = some 3) (hk : k < n) (hl : l.length = n) :
    (Instr.index T (.agg (patA l)) (.int kk (k : Int))).run P w = .ok (.agg (patV (l.getD k patZ))) w := by
  cases hq : P.info? e with
  | none => simp [hq] at hs
  | some inf =>
    have h1 : inf.size = 3 := by simpa [hq] using hs
    have hx := patA_ext (l := l) (k := k) (by omega)
    simp [Instr.index, asIntOf, Sem.run_bind, run_underlying hu w, sizeOf, typeInfo, hq, h1, part, hg, hk, hx]
section
variable {P : Program} {N : Nat} {dm : List Deferred} {Q : Exit → Act → World → Prop} {k : List It} {fr : Fr} {wr w : World} {L : List Ent}
/-- An element of a table that is a value. -/
theorem ivA {all : Array Oper} {i : Nat} {o : Oper} {l : List Pat} {n : Nat} {kk : IntKind} (d : Nat) (q : Nat) (hq : q < n) (hl : l.length = n) {T e : TypeId} (hu : P.underlying T = some (.array n e)) (h : TO dm P N Q all k ((d, .agg (patV (l.getD q patZ))) :: fr) w (i + 1)) {x y : Operand}
    (ho : all.toList[i]? = some o := by rfl) (hd : o.dst = some d := by rfl) (hop : o.op = .index T x y := by rfl) (hw : ∀ j, Region.wanted o (yl N all j fr) = true := by intro j; rfl)
    (hx : ∀ j, ev j fr x = .agg (patA l) := by intro j; rfl) (hy : ∀ j, ev j fr y = .int kk (q : Int) := by intro j; rfl) (hg : (isAgg e).run P w = .ok true w := by kernel_rfl) (hs : (P.info? e).map (·.size) = some 3 := by kernel_rfl) (hN : Nat.blt d N = true := by rfl) : TO dm P N Q all k fr w i := by
  refine to_op ho hw (v := .agg (patV (l.getD q patZ))) (fun j => ?_) (by unfold put1; rw [hd]; simp only [hN, cond_true]) h
  unfold execOp
  simp only [hop, hx j, hy j, Sem.run_bind, run_idxV hu hg hs hq hl, Result.andThen_ok, Sem.run_pure]
/-- A comparison of two structs. -/
theorem eqA {all : Array Oper} {i : Nat} {o : Oper} (d : Nat) {xs ys : Array Value} {v : Value} {T : TypeId} {yt : TypeId} (hr : (binOp .eql T (.agg xs) (.agg ys)).run P w = .ok v w) (h : TO dm P N Q all k ((d, v) :: fr) w (i + 1)) {x y : Operand}
    (ho : all.toList[i]? = some o := by rfl) (hd : o.dst = some d := by rfl) (hop : o.op = .binOp .eql T x y yt := by rfl) (hw : ∀ j, Region.wanted o (yl N all j fr) = true := by intro j; rfl)
    (hx : ∀ j, ev j fr x = .agg xs := by intro j; rfl) (hy : ∀ j, ev j fr y = .agg ys := by intro j; rfl) (hm : P.eqGuardType P.depth T = false := by kernel_rfl) (hN : Nat.blt d N = true := by rfl) : TO dm P N Q all k fr w i :=
  to_rq d v (fun j => rq hr hm hop (hx j) (hy j)) h ho hd hw hN
end
end Cal
def patOf (i : Inst) : Pat := (i.op, i.fn, i.reg)
/-- An instruction's number. -/
def codeN (i : Inst) : Int × Bool := if instMay i = true then (match patT.findIdx? (fun p => decide (p = patOf i)) with | some n => ((n : Int), true) | none => (0, false)) else (0, false)
theorem codeN_no {i : Inst} (h : instMay i = false) : codeN i = (0, false) := by unfold codeN; rw [if_neg (by rw [h]; decide)]
theorem codeN_at {i : Inst} {k : Nat} (hm : instMay i = true) (hk : k < 40) (hno : ∀ j, j < k → decide (patT.getD j patZ = patOf i) = false) (h : decide (patT.getD k patZ = patOf i) = true) : codeN i = ((k : Int), true) := by
  have hl := patT_len
  have : patT.findIdx? (fun p => decide (p = patOf i)) = some k := by
    rw [List.findIdx?_eq_some_iff_getElem]
    have hg : ∀ j, (h : j < patT.length) → patT.getD j patZ = patT[j] := fun j h => by simp [h]
    refine ⟨by omega, by rw [← hg k (by omega)]; exact h, fun j hj => ?_⟩
    have := hno j hj
    rw [hg j (by omega)] at this
    simpa using this
  unfold codeN
  rw [if_pos hm, this]
theorem codeN_none {i : Inst} (hm : instMay i = true) (hno : ∀ j, j < 40 → decide (patT.getD j patZ = patOf i) = false) : codeN i = (0, false) := by
  have hl := patT_len
  have : patT.findIdx? (fun p => decide (p = patOf i)) = none := by
    rw [List.findIdx?_eq_none_iff]
    intro x hx
    obtain ⟨j, hj, rfl⟩ := List.mem_iff_getElem.1 hx
    have := hno j (by omega)
    simpa [hj] using this
  unfold codeN
  rw [if_pos hm, this]
theorem no_step {f : Nat → Bool} {k : Nat} (h : ∀ j, j < k → f j = false) (e : f k = false) : ∀ j, j < k + 1 → f j = false := fun j hj => by
  rcases Nat.lt_succ_iff_lt_or_eq.1 hj with h1 | h1
  · exact h j h1
  · subst h1; exact e
theorem code_any (x : Inst) (w : World) : Calls Try.prog 128 #[.agg x.cs] w fun e w' => e = .returned (.tuple #[.int .i64 (codeN x).1, .bool (codeN x).2]) ∧ Below w.heap.size w w' := by
  have M := Mem.refl w
  refine calls_tc (N := 25) (args := [.agg x.cs]) Try.func128 rfl rfl rfl ?_
  refine tc_seq (tc_region ?_)
  refine nw M 1 x.cs 65 fun b1 w1 M1 => ?_
  refine sg 2 [1, 2, 3] [(1, .pointer (some ⟨b1, 0, none⟩)), (2, .int .i64 0), (3, .bool false)] ?_
  refine to_end rfl (tn_code (tc_seq (tc_seq (tc_region ?_))))
  refine la M1 0 6 x.cs (hu := Try.underlying65) ?_
  refine cb M1 7 (may_any x _) fun w2 hb2 M2 => ?_
  refine sg 1 [1, 8] [(1, .pointer (some ⟨b1, 0, none⟩)), (8, .bool (!(instMay x)))] ?_
  refine to_end rfl (tn_code ?_)
  rcases hm : instMay x with _ | _
  · refine tc_cond_t (fun _ => rfl) (tc_seq (tc_region ?_))
    refine sg 2 [2, 3] [(2, .int .i64 0), (3, .bool false)] ?_
    refine to_end rfl (tn_code (tc_ret ?_))
    refine tr_tmp2 rfl rfl rfl ?_
    exact ⟨by rw [codeN_no hm], M2.below⟩
  refine tc_cond_f (fun _ => rfl) (tc_skip (tn_code (tc_seq (tc_seq (tc_region ?_)))))
  refine cb M2 9 (patterns_any _) fun w3 hb3 M3 => ?_
  refine sg 1 [1, 9, 10] [(1, .pointer (some ⟨b1, 0, none⟩)), (9, .agg (patA patT)), (10, .int .i64 0)] ?_
  refine to_end rfl (tn_code (tc_block ?_))
  refine tc_loop (σ := Nat) (fun k => [(1, .pointer (some ⟨b1, 0, none⟩)), (9, .agg (patA patT)), (10, .int .i64 (k : Int))]) (fun k w' => (k ≤ 40 ∧ ∀ j, j < k → decide (patT.getD j patZ = patOf x) = false) ∧ Mem w w' [blk b1 x.cs 65]) (fun k => 40 - k) 0 (Sub.cons rfl (Sub.cons rfl (Sub.cons rfl (Sub.nil _)))) ⟨⟨by omega, fun j hj => absurd hj (Nat.not_lt_zero _)⟩, M3⟩ ?_
  rintro k w4 ⟨⟨hk, hno⟩, M4⟩
  refine tc_seq (tc_region ?_)
  refine sg 1 [1, 9, 10, 11] [(1, .pointer (some ⟨b1, 0, none⟩)), (9, .agg (patA patT)), (10, .int .i64 (k : Int)), (11, .bool (decide ((k : Int) < 40)))] ?_
  refine to_end rfl (tn_code (tc_seq ?_))
  refine tc_cond (b := decide ((k : Int) < 40)) (fun _ => rfl) (fun h => ?_) (fun h => ?_)
  · have hp := of_decide_eq_true h
    refine tc_skip (tn_code (tc_seq (tc_block (tc_seq (tc_region ?_)))))
    refine sg 1 [1, 9, 10, 12] [(1, .pointer (some ⟨b1, 0, none⟩)), (9, .agg (patA patT)), (10, .int .i64 (k : Int)), (12, .int .i64 (k : Int))] ?_
    refine ivA 13 k (by omega) patT_len Try.underlying137 ?_
    refine nw M4 5 #[.int .i64 0, .int .i64 0, .bool false] 136 fun b5 w5 M5 => ?_
    refine sg 1 [1, 9, 10, 4, 5, 13] [(1, .pointer (some ⟨b1, 0, none⟩)), (9, .agg (patA patT)), (10, .int .i64 (k : Int)), (4, .int .i64 (k : Int)), (5, .pointer (some ⟨b5, 0, none⟩)), (13, .agg (patV (patT.getD k patZ)))] ?_
    refine sa M5 0 (patV (patT.getD k patZ)) fun w6 M6 => ?_
    refine to_end rfl (tn_code (tc_seq (tc_region ?_)))
    refine la M6 0 14 (patV (patT.getD k patZ)) (hu := Try.underlying136) ?_
    refine sg 1 [1, 9, 10, 4, 14, 15] [(1, .pointer (some ⟨b1, 0, none⟩)), (9, .agg (patA patT)), (10, .int .i64 (k : Int)), (4, .int .i64 (k : Int)), (14, .agg (patV (patT.getD k patZ))), (15, .pointer (some ⟨b1, 0, none⟩))] ?_
    refine ld M6 1 16 (.int .i64 x.op) ?_
    refine sg 1 [1, 9, 10, 4, 14, 16, 17] [(1, .pointer (some ⟨b1, 0, none⟩)), (9, .agg (patA patT)), (10, .int .i64 (k : Int)), (4, .int .i64 (k : Int)), (14, .agg (patV (patT.getD k patZ))), (16, .int .i64 x.op), (17, .pointer (some ⟨b1, 1, none⟩))] ?_
    refine ld M6 1 18 (.int .i64 x.fn) ?_
    refine sg 1 [1, 9, 10, 4, 14, 16, 18, 19] [(1, .pointer (some ⟨b1, 0, none⟩)), (9, .agg (patA patT)), (10, .int .i64 (k : Int)), (4, .int .i64 (k : Int)), (14, .agg (patV (patT.getD k patZ))), (16, .int .i64 x.op), (18, .int .i64 x.fn), (19, .pointer (some ⟨b1, 4, none⟩))] ?_
    refine ld M6 1 20 (.bool x.reg) ?_
    refine sg 1 [1, 9, 10, 4, 14, 21] [(1, .pointer (some ⟨b1, 0, none⟩)), (9, .agg (patA patT)), (10, .int .i64 (k : Int)), (4, .int .i64 (k : Int)), (14, .agg (patV (patT.getD k patZ))), (21, .agg (patV (patOf x)))] ?_
    refine eqA 22 (eql_pat (patT.getD k patZ) (patOf x) _) ?_
    refine to_end rfl (tn_code ?_)
    refine tc_cond (b := decide (patT.getD k patZ = patOf x)) (fun _ => rfl) (fun h2 => ?_) (fun h2 => ?_)
    · refine tc_seq (tc_region ?_)
      refine sg 3 [2, 3] [(2, .int .i64 (k : Int)), (3, .bool true)] ?_
      refine to_end rfl (tn_code (tc_ret ?_))
      refine tr_tmp2 rfl rfl rfl ?_
      exact ⟨by rw [codeN_at hm (by omega) hno h2], M6.below⟩
    · refine tc_skip (tn_blk (tn_code (tc_region ?_)))
      refine sg 2 [1, 9, 10] [(1, .pointer (some ⟨b1, 0, none⟩)), (9, .agg (patA patT)), (10, .int .i64 (IntKind.wrap .i64 ((k : Int) + 1)))] ?_
      rw [show IntKind.wrap .i64 ((k : Int) + 1) = (((k + 1) : Nat) : Int) from wr_nat k 1 (by omega)]
      refine to_end rfl ?_
      exact tn_back (k + 1) (Sub.cons rfl (Sub.cons rfl (Sub.cons rfl (Sub.nil _)))) ⟨⟨by omega, no_step hno h2⟩, M6.drop 0⟩ (by omega)
  · have hp := of_decide_eq_false h
    obtain rfl : k = 40 := by omega
    refine tc_exitK (k' := _) rfl (tn_code (tc_seq (tc_region ?_)))
    refine sg 2 [2, 3] [(2, .int .i64 0), (3, .bool false)] ?_
    refine to_end rfl (tn_code (tc_ret ?_))
    refine tr_tmp2 rfl rfl rfl ?_
    exact ⟨by rw [codeN_none hm hno], M4.below⟩
end Go.Proofs.Ytfknhbgghpbkpaa

/- Words of instructions: bits as sums. -/
namespace Go.Proofs.Ytfknhbgghpbkpaa
open Go.RowKit Cal Go.Proofs.YtfknhbgghpbkpaaW.PrintWords
theorem or_sum {a b : Int} (m : Nat) (c : Int) (hc : c = ((2 ^ m : Nat) : Int)) (h0 : 0 ≤ a) (ha : a % c = 0) (h1 : 0 ≤ b) (h2 : b < c) (h3 : a + b < 18446744073709551616) : bits .or .u64 a b = a + b := by
  subst hc
  obtain ⟨q, hq⟩ : ∃ q : Nat, a = ((q * 2 ^ m : Nat) : Int) := by
    obtain ⟨n, rfl⟩ := Int.eq_ofNat_of_zero_le h0
    obtain ⟨q, hq⟩ : 2 ^ m ∣ n := by
      have : ((2 ^ m : Nat) : Int) ∣ (n : Int) := Int.dvd_of_emod_eq_zero ha
      exact Int.natCast_dvd_natCast.1 this
    exact ⟨q, by rw [hq, Nat.mul_comm]⟩
  obtain ⟨r, rfl⟩ := Int.eq_ofNat_of_zero_le h1
  have hor : q * 2 ^ m ||| r = q * 2 ^ m + r := by
    have h5 : r < 2 ^ m := Int.ofNat_lt.1 h2
    have := Nat.shiftLeft_add_eq_or_of_lt (a := q) (b := r) (i := m) h5
    rw [Nat.shiftLeft_eq] at this
    exact this.symm
  generalize q * 2 ^ m = t at hq hor
  subst hq
  have h4 : t + r < 18446744073709551616 := by omega
  have e1 : BitVec.ofInt 64 (t : Int) = BitVec.ofNat 64 t := BitVec.ofInt_natCast 64 _
  have e2 : BitVec.ofInt 64 (r : Int) = BitVec.ofNat 64 r := BitVec.ofInt_natCast 64 r
  show IntKind.wrap .u64 (((BitVec.ofInt 64 (t : Int) ||| BitVec.ofInt 64 (r : Int)).toNat : Nat) : Int) = _
  rw [e1, e2, BitVec.toNat_or, BitVec.toNat_ofNat, BitVec.toNat_ofNat, Nat.mod_eq_of_lt (by omega), Nat.mod_eq_of_lt (by omega), hor, wr_u64 (by omega) (by omega)]
  omega
theorem codeN_bd (x : Inst) : 0 ≤ (codeN x).1 ∧ (codeN x).1 < 40 := by
  unfold codeN
  have hl := patT_len
  split
  · cases h : patT.findIdx? (fun p => decide (p = patOf x)) with
    | none => exact ⟨Int.le_refl _, by decide⟩
    | some n =>
      rw [List.findIdx?_eq_some_iff_getElem] at h
      obtain ⟨hn, _⟩ := h
      exact ⟨by show (0 : Int) ≤ (n : Int); omega, by show (n : Int) < 40; omega⟩
  · exact ⟨Int.le_refl _, by decide⟩
theorem codeN_may {x : Inst} (h : (codeN x).2 = true) : instMay x = true := by
  unfold codeN at h
  by_cases hm : instMay x = true
  · exact hm
  · rw [if_neg hm] at h; cases h
def goesB (x : Inst) : Bool := (x.op == 1) || (x.op == 6)
/-- An instruction's word. -/
def putW (x : Inst) (tt : Int) : Int × Int :=
  if (codeN x).2 = false ∨ tt < 0 ∨ tt > 1023 ∨ (0 < tt ∧ goesB x = false) then (0, 1)
  else ((codeN x).1 * 281474976710656 + x.dst * 35184372088832 + x.src * 4398046511104 + tt * 4294967296 + (if x.op = 6 then 0 else x.imm), 0)
theorem putW_no {x : Inst} {tt : Int} (h : (codeN x).2 = false ∨ tt < 0 ∨ tt > 1023 ∨ (0 < tt ∧ goesB x = false)) : putW x tt = (0, 1) := by unfold putW; rw [if_pos h]
theorem putW_yes {x : Inst} {tt : Int} (h1 : (codeN x).2 = true) (h2 : 0 ≤ tt) (h3 : tt ≤ 1023) (h4 : tt ≤ 0 ∨ goesB x = true) : putW x tt = ((codeN x).1 * 281474976710656 + x.dst * 35184372088832 + x.src * 4398046511104 + tt * 4294967296 + (if x.op = 6 then 0 else x.imm), 0) := by
  unfold putW
  rw [if_neg]
  rintro (h | h | h | ⟨h, h5⟩)
  · rw [h1] at h; cases h
  · omega
  · omega
  · rcases h4 with h4 | h4
    · omega
    · rw [h4] at h5; cases h5
end Go.Proofs.Ytfknhbgghpbkpaa

/- Words of instructions: what goes, Put. -/
namespace Go.Proofs.Ytfknhbgghpbkpaa
open Go.RowKit Cal Go.Proofs.YtfknhbgghpbkpaaW.PrintWords
theorem goes_any (x : Inst) (w : World) : Calls Try.prog 129 #[.agg x.cs] w fun e w' => e = .returned (.bool (goesB x)) ∧ Below w.heap.size w w' := by
  have M := Mem.refl w
  refine calls_tc (N := 11) (args := [.agg x.cs]) Try.func129 rfl rfl rfl ?_
  refine tc_seq (tc_region ?_)
  refine nw M 1 x.cs 65 fun b1 w2 M3 => ?_
  refine sg 1 [1] [(1, .pointer (some ⟨b1, 0, none⟩))] ?_
  refine to_end rfl (tn_code (tc_seq (tc_region ?_)))
  refine sg 1 [1, 3] [(1, .pointer (some ⟨b1, 0, none⟩)), (3, .pointer (some ⟨b1, 0, none⟩))] ?_
  refine ld M3 0 4 (.int .i64 x.op) ?_
  refine sg 2 [1, 6] [(1, .pointer (some ⟨b1, 0, none⟩)), (6, .bool (x.op == 1))] ?_
  rcases h4 : (x.op == 1 : Bool) with _ | _
  · have h4p := beq_eq_false_iff_ne.1 h4
    refine sg 1 [6, 7] [(6, .bool false), (7, .pointer (some ⟨b1, 0, none⟩))] ?_
    refine ld M3 0 8 (.int .i64 x.op) ?_
    refine sg 3 [2] [(2, .bool (x.op == 6))] ?_
    refine to_end rfl (tn_code (tc_ret ?_))
    refine tr_tmp rfl rfl ?_
    exact ⟨congrArg Ending.returned (congrArg Value.bool (by unfold goesB; first | rfl | (simp only [h4, Bool.true_or, Bool.false_or]; done) | simp_all)), M3.below⟩
  · have h4p := beq_iff_eq.1 h4
    refine sg 5 [2] [(2, .bool true)] ?_
    refine to_end rfl (tn_code (tc_ret ?_))
    refine tr_tmp rfl rfl ?_
    exact ⟨congrArg Ending.returned (congrArg Value.bool (by unfold goesB; first | rfl | (simp only [h4, Bool.true_or, Bool.false_or]; done) | simp_all)), M3.below⟩

theorem iput_any (x : Inst) (tt : Int) (w : World) (hi : 0 ≤ x.imm ∧ x.imm < 4294967296) : Calls Try.prog 89 #[.agg x.cs, .int .i64 tt] w fun e w' => e = .returned (.tuple #[.int .u64 (putW x tt).1, .int .i64 (putW x tt).2]) ∧ Below w.heap.size w w' := by
  have M := Mem.refl w
  have hcb := codeN_bd x
  have hmb : (codeN x).2 = true → (0 ≤ x.dst ∧ x.dst < 8) ∧ (0 ≤ x.src ∧ x.src < 8) := fun h => by have h_ := may_bd (codeN_may h); exact ⟨h_.2.2.1, h_.2.2.2.1⟩
  refine calls_tc (N := 57) (args := [.agg x.cs, .int .i64 tt]) Try.func89 rfl rfl rfl ?_
  refine tc_seq (tc_region ?_)
  refine nw M 2 x.cs 65 fun b1 w2 M3 => ?_
  refine sg 2 [1, 2] [(1, .int .i64 tt), (2, .pointer (some ⟨b1, 0, none⟩))] ?_
  refine to_end rfl (tn_code (tc_seq (tc_region ?_)))
  refine la M3 0 9 x.cs (hu := Try.underlying65) ?_
  refine cb M3 10 (code_any x _) fun w4 hb6 M5 => ?_
  refine sg 5 [1, 2, 6, 7] [(1, .int .i64 tt), (2, .pointer (some ⟨b1, 0, none⟩)), (6, .int .i64 (codeN x).1), (7, .bool (codeN x).2)] ?_
  refine to_end rfl (tn_code (tc_seq (tc_seq (tc_region ?_))))
  refine sg 3 [1, 2, 6, 15] [(1, .int .i64 tt), (2, .pointer (some ⟨b1, 0, none⟩)), (6, .int .i64 (codeN x).1), (15, .bool (!(codeN x).2))] ?_
  rcases h7 : ((codeN x).2 : Bool) with _ | _
  · refine sg 16 [1, 2, 6, 31] [(1, .int .i64 tt), (2, .pointer (some ⟨b1, 0, none⟩)), (6, .int .i64 (codeN x).1), (31, .bool true)] ?_
    refine to_end rfl (tn_code (tc_cond_t (fun _ => rfl) (tc_seq (tc_region ?_))))
    refine sg 2 [4, 5] [(4, .int .u64 0), (5, .int .i64 1)] ?_
    refine to_end rfl (tn_code (tc_ret ?_))
    refine tr_tmp2 rfl rfl rfl ?_
    exact ⟨by rw [putW_no (.inl h7)], M5.below⟩
  · refine sg 4 [1, 2, 6, 19] [(1, .int .i64 tt), (2, .pointer (some ⟨b1, 0, none⟩)), (6, .int .i64 (codeN x).1), (19, .bool (decide (tt < 0)))] ?_
    rcases h8 : (decide (tt < 0) : Bool) with _ | _
    · have h8p := of_decide_eq_false h8
      refine sg 4 [1, 2, 6, 23] [(1, .int .i64 tt), (2, .pointer (some ⟨b1, 0, none⟩)), (6, .int .i64 (codeN x).1), (23, .bool (decide (tt > 1023)))] ?_
      rcases h9 : (decide (tt > 1023) : Bool) with _ | _
      · have h9p := of_decide_eq_false h9
        refine sg 3 [1, 2, 6, 23, 26] [(1, .int .i64 tt), (2, .pointer (some ⟨b1, 0, none⟩)), (6, .int .i64 (codeN x).1), (23, .bool false), (26, .bool (decide (tt > 0)))] ?_
        rcases h10 : (decide (tt > 0) : Bool) with _ | _
        · have h10p := of_decide_eq_false h10
          refine sg 5 [1, 2, 6, 31] [(1, .int .i64 tt), (2, .pointer (some ⟨b1, 0, none⟩)), (6, .int .i64 (codeN x).1), (31, .bool false)] ?_
          refine to_end rfl (tn_code (tc_cond_f (fun _ => rfl) (tc_skip (tn_code (tc_seq (tc_seq (tc_region ?_)))))))
          refine sg 1 [1, 2, 6, 32] [(1, .int .i64 tt), (2, .pointer (some ⟨b1, 0, none⟩)), (6, .int .i64 (codeN x).1), (32, .pointer (some ⟨b1, 0, none⟩))] ?_
          have hmb2 := hmb h7
          refine ld M5 0 33 (.int .i64 x.op) ?_
          refine sg 1 [1, 2, 6, 34] [(1, .int .i64 tt), (2, .pointer (some ⟨b1, 0, none⟩)), (6, .int .i64 (codeN x).1), (34, .bool (x.op == 6))] ?_
          refine to_end rfl (tn_code ?_)
          refine tc_cond (b := x.op == 6) (fun _ => rfl) (fun h11 => ?_) (fun h11 => ?_)
          · have h11p := beq_iff_eq.1 h11
            refine tc_region ?_
            refine sg 1 [1, 2, 6, 35] [(1, .int .i64 tt), (2, .pointer (some ⟨b1, 0, none⟩)), (6, .int .i64 (codeN x).1), (35, .pointer (some ⟨b1, 6, none⟩))] ?_
            refine st M5 0 #[.int .i64 x.op, .int .i64 x.fn, .int .i64 x.dst, .int .i64 x.src, .bool x.reg, .int .i64 x.off, .int .u32 0] fun w12 M13 => ?_
            refine to_end rfl (tn_code (tc_seq (tc_region ?_)))
            refine sg 4 [1, 2, 38, 39] [(1, .int .i64 tt), (2, .pointer (some ⟨b1, 0, none⟩)), (38, .int .u64 (IntKind.wrap .u64 ((IntKind.wrap .u64 (codeN x).1) * 281474976710656))), (39, .pointer (some ⟨b1, 2, none⟩))] ?_
            rw [wr_u64 (x := (codeN x).1) (by omega) (by omega)]
            rw [wr_u64 (x := (codeN x).1 * 281474976710656) (by omega) (by omega)]
            refine ld M13 0 40 (.int .i64 x.dst) ?_
            refine sg 4 [1, 2, 43, 44] [(1, .int .i64 tt), (2, .pointer (some ⟨b1, 0, none⟩)), (43, .int .u64 (bits .or .u64 ((codeN x).1 * 281474976710656) (IntKind.wrap .u64 ((IntKind.wrap .u64 x.dst) * 35184372088832)))), (44, .pointer (some ⟨b1, 3, none⟩))] ?_
            rw [wr_u64 (x := x.dst) (by omega) (by omega)]
            rw [wr_u64 (x := x.dst * 35184372088832) (by omega) (by omega)]
            rw [or_sum (a := ((codeN x).1 * 281474976710656)) (b := (x.dst * 35184372088832)) 48 281474976710656 (by decide) (by omega) (by omega) (by omega) (by omega) (by omega)]
            refine ld M13 0 45 (.int .i64 x.src) ?_
            refine sg 8 [52, 53] [(52, .int .u64 (bits .or .u64 (bits .or .u64 (((codeN x).1 * 281474976710656) + (x.dst * 35184372088832)) (IntKind.wrap .u64 ((IntKind.wrap .u64 x.src) * 4398046511104))) (IntKind.wrap .u64 ((IntKind.wrap .u64 tt) * 4294967296)))), (53, .pointer (some ⟨b1, 6, none⟩))] ?_
            rw [wr_u64 (x := x.src) (by omega) (by omega)]
            rw [wr_u64 (x := x.src * 4398046511104) (by omega) (by omega)]
            rw [or_sum (a := (((codeN x).1 * 281474976710656) + (x.dst * 35184372088832))) (b := (x.src * 4398046511104)) 45 35184372088832 (by decide) (by omega) (by omega) (by omega) (by omega) (by omega)]
            rw [wr_u64 (x := tt) (by omega) (by omega)]
            rw [wr_u64 (x := tt * 4294967296) (by omega) (by omega)]
            rw [or_sum (a := ((((codeN x).1 * 281474976710656) + (x.dst * 35184372088832)) + (x.src * 4398046511104))) (b := (tt * 4294967296)) 42 4398046511104 (by decide) (by omega) (by omega) (by omega) (by omega) (by omega)]
            refine ld M13 0 54 (.int .u32 0) ?_
            refine sg 4 [4, 5] [(4, .int .u64 (bits .or .u64 (((((codeN x).1 * 281474976710656) + (x.dst * 35184372088832)) + (x.src * 4398046511104)) + (tt * 4294967296)) 0)), (5, .int .i64 0)] ?_
            rw [or_sum (a := (((((codeN x).1 * 281474976710656) + (x.dst * 35184372088832)) + (x.src * 4398046511104)) + (tt * 4294967296))) (b := 0) 32 4294967296 (by decide) (by omega) (by omega) (by omega) (by omega) (by omega)]
            refine to_end rfl (tn_code (tc_ret ?_))
            refine tr_tmp2 rfl rfl rfl ?_
            have hp := putW_yes h7 (by omega : 0 ≤ tt) (by omega) (by first | exact .inl (by omega))
            rw [if_pos (beq_iff_eq.1 h11)] at hp
            exact ⟨by rw [hp], M13.below⟩
          · have h11p := beq_eq_false_iff_ne.1 h11
            refine tc_skip (tn_code (tc_seq (tc_region ?_)))
            refine sg 4 [1, 2, 38, 39] [(1, .int .i64 tt), (2, .pointer (some ⟨b1, 0, none⟩)), (38, .int .u64 (IntKind.wrap .u64 ((IntKind.wrap .u64 (codeN x).1) * 281474976710656))), (39, .pointer (some ⟨b1, 2, none⟩))] ?_
            rw [wr_u64 (x := (codeN x).1) (by omega) (by omega)]
            rw [wr_u64 (x := (codeN x).1 * 281474976710656) (by omega) (by omega)]
            refine ld M5 0 40 (.int .i64 x.dst) ?_
            refine sg 4 [1, 2, 43, 44] [(1, .int .i64 tt), (2, .pointer (some ⟨b1, 0, none⟩)), (43, .int .u64 (bits .or .u64 ((codeN x).1 * 281474976710656) (IntKind.wrap .u64 ((IntKind.wrap .u64 x.dst) * 35184372088832)))), (44, .pointer (some ⟨b1, 3, none⟩))] ?_
            rw [wr_u64 (x := x.dst) (by omega) (by omega)]
            rw [wr_u64 (x := x.dst * 35184372088832) (by omega) (by omega)]
            rw [or_sum (a := ((codeN x).1 * 281474976710656)) (b := (x.dst * 35184372088832)) 48 281474976710656 (by decide) (by omega) (by omega) (by omega) (by omega) (by omega)]
            refine ld M5 0 45 (.int .i64 x.src) ?_
            refine sg 8 [52, 53] [(52, .int .u64 (bits .or .u64 (bits .or .u64 (((codeN x).1 * 281474976710656) + (x.dst * 35184372088832)) (IntKind.wrap .u64 ((IntKind.wrap .u64 x.src) * 4398046511104))) (IntKind.wrap .u64 ((IntKind.wrap .u64 tt) * 4294967296)))), (53, .pointer (some ⟨b1, 6, none⟩))] ?_
            rw [wr_u64 (x := x.src) (by omega) (by omega)]
            rw [wr_u64 (x := x.src * 4398046511104) (by omega) (by omega)]
            rw [or_sum (a := (((codeN x).1 * 281474976710656) + (x.dst * 35184372088832))) (b := (x.src * 4398046511104)) 45 35184372088832 (by decide) (by omega) (by omega) (by omega) (by omega) (by omega)]
            rw [wr_u64 (x := tt) (by omega) (by omega)]
            rw [wr_u64 (x := tt * 4294967296) (by omega) (by omega)]
            rw [or_sum (a := ((((codeN x).1 * 281474976710656) + (x.dst * 35184372088832)) + (x.src * 4398046511104))) (b := (tt * 4294967296)) 42 4398046511104 (by decide) (by omega) (by omega) (by omega) (by omega) (by omega)]
            refine ld M5 0 54 (.int .u32 x.imm) ?_
            refine sg 4 [4, 5] [(4, .int .u64 (bits .or .u64 (((((codeN x).1 * 281474976710656) + (x.dst * 35184372088832)) + (x.src * 4398046511104)) + (tt * 4294967296)) (IntKind.wrap .u64 x.imm))), (5, .int .i64 0)] ?_
            rw [wr_u64 (x := x.imm) (by omega) (by omega)]
            rw [or_sum (a := (((((codeN x).1 * 281474976710656) + (x.dst * 35184372088832)) + (x.src * 4398046511104)) + (tt * 4294967296))) (b := x.imm) 32 4294967296 (by decide) (by omega) (by omega) (by omega) (by omega) (by omega)]
            refine to_end rfl (tn_code (tc_ret ?_))
            refine tr_tmp2 rfl rfl rfl ?_
            have hp := putW_yes h7 (by omega : 0 ≤ tt) (by omega) (by first | exact .inl (by omega))
            rw [if_neg (beq_eq_false_iff_ne.1 h11)] at hp
            exact ⟨by rw [hp], M5.below⟩
        · have h10p := of_decide_eq_true h10
          have hmb2 := hmb h7
          refine la M5 0 27 x.cs (hu := Try.underlying65) ?_
          refine cb M5 28 (goes_any x _) fun w14 hb16 M15 => ?_
          refine sg 3 [1, 2, 6, 31] [(1, .int .i64 tt), (2, .pointer (some ⟨b1, 0, none⟩)), (6, .int .i64 (codeN x).1), (31, .bool (!(goesB x)))] ?_
          refine to_end rfl (tn_code ?_)
          rcases h17 : (goesB x : Bool) with _ | _
          · refine tc_cond_t (fun _ => rfl) (tc_seq (tc_region ?_))
            refine sg 2 [4, 5] [(4, .int .u64 0), (5, .int .i64 1)] ?_
            refine to_end rfl (tn_code (tc_ret ?_))
            refine tr_tmp2 rfl rfl rfl ?_
            exact ⟨by rw [putW_no (by first | exact .inr (.inl (by omega)) | exact .inr (.inr (.inl (by omega))) | exact .inr (.inr (.inr ⟨by omega, h17⟩)))], M15.below⟩
          · refine tc_cond_f (fun _ => rfl) (tc_skip (tn_code (tc_seq (tc_seq (tc_region ?_)))))
            refine sg 1 [1, 2, 6, 32] [(1, .int .i64 tt), (2, .pointer (some ⟨b1, 0, none⟩)), (6, .int .i64 (codeN x).1), (32, .pointer (some ⟨b1, 0, none⟩))] ?_
            refine ld M15 0 33 (.int .i64 x.op) ?_
            refine sg 1 [1, 2, 6, 34] [(1, .int .i64 tt), (2, .pointer (some ⟨b1, 0, none⟩)), (6, .int .i64 (codeN x).1), (34, .bool (x.op == 6))] ?_
            refine to_end rfl (tn_code ?_)
            refine tc_cond (b := x.op == 6) (fun _ => rfl) (fun h18 => ?_) (fun h18 => ?_)
            · have h18p := beq_iff_eq.1 h18
              refine tc_region ?_
              refine sg 1 [1, 2, 6, 35] [(1, .int .i64 tt), (2, .pointer (some ⟨b1, 0, none⟩)), (6, .int .i64 (codeN x).1), (35, .pointer (some ⟨b1, 6, none⟩))] ?_
              refine st M15 0 #[.int .i64 x.op, .int .i64 x.fn, .int .i64 x.dst, .int .i64 x.src, .bool x.reg, .int .i64 x.off, .int .u32 0] fun w19 M20 => ?_
              refine to_end rfl (tn_code (tc_seq (tc_region ?_)))
              refine sg 4 [1, 2, 38, 39] [(1, .int .i64 tt), (2, .pointer (some ⟨b1, 0, none⟩)), (38, .int .u64 (IntKind.wrap .u64 ((IntKind.wrap .u64 (codeN x).1) * 281474976710656))), (39, .pointer (some ⟨b1, 2, none⟩))] ?_
              rw [wr_u64 (x := (codeN x).1) (by omega) (by omega)]
              rw [wr_u64 (x := (codeN x).1 * 281474976710656) (by omega) (by omega)]
              refine ld M20 0 40 (.int .i64 x.dst) ?_
              refine sg 4 [1, 2, 43, 44] [(1, .int .i64 tt), (2, .pointer (some ⟨b1, 0, none⟩)), (43, .int .u64 (bits .or .u64 ((codeN x).1 * 281474976710656) (IntKind.wrap .u64 ((IntKind.wrap .u64 x.dst) * 35184372088832)))), (44, .pointer (some ⟨b1, 3, none⟩))] ?_
              rw [wr_u64 (x := x.dst) (by omega) (by omega)]
              rw [wr_u64 (x := x.dst * 35184372088832) (by omega) (by omega)]
              rw [or_sum (a := ((codeN x).1 * 281474976710656)) (b := (x.dst * 35184372088832)) 48 281474976710656 (by decide) (by omega) (by omega) (by omega) (by omega) (by omega)]
              refine ld M20 0 45 (.int .i64 x.src) ?_
              refine sg 8 [52, 53] [(52, .int .u64 (bits .or .u64 (bits .or .u64 (((codeN x).1 * 281474976710656) + (x.dst * 35184372088832)) (IntKind.wrap .u64 ((IntKind.wrap .u64 x.src) * 4398046511104))) (IntKind.wrap .u64 ((IntKind.wrap .u64 tt) * 4294967296)))), (53, .pointer (some ⟨b1, 6, none⟩))] ?_
              rw [wr_u64 (x := x.src) (by omega) (by omega)]
              rw [wr_u64 (x := x.src * 4398046511104) (by omega) (by omega)]
              rw [or_sum (a := (((codeN x).1 * 281474976710656) + (x.dst * 35184372088832))) (b := (x.src * 4398046511104)) 45 35184372088832 (by decide) (by omega) (by omega) (by omega) (by omega) (by omega)]
              rw [wr_u64 (x := tt) (by omega) (by omega)]
              rw [wr_u64 (x := tt * 4294967296) (by omega) (by omega)]
              rw [or_sum (a := ((((codeN x).1 * 281474976710656) + (x.dst * 35184372088832)) + (x.src * 4398046511104))) (b := (tt * 4294967296)) 42 4398046511104 (by decide) (by omega) (by omega) (by omega) (by omega) (by omega)]
              refine ld M20 0 54 (.int .u32 0) ?_
              refine sg 4 [4, 5] [(4, .int .u64 (bits .or .u64 (((((codeN x).1 * 281474976710656) + (x.dst * 35184372088832)) + (x.src * 4398046511104)) + (tt * 4294967296)) 0)), (5, .int .i64 0)] ?_
              rw [or_sum (a := (((((codeN x).1 * 281474976710656) + (x.dst * 35184372088832)) + (x.src * 4398046511104)) + (tt * 4294967296))) (b := 0) 32 4294967296 (by decide) (by omega) (by omega) (by omega) (by omega) (by omega)]
              refine to_end rfl (tn_code (tc_ret ?_))
              refine tr_tmp2 rfl rfl rfl ?_
              have hp := putW_yes h7 (by omega : 0 ≤ tt) (by omega) (by first | exact .inl (by omega) | exact .inr h17)
              rw [if_pos (beq_iff_eq.1 h18)] at hp
              exact ⟨by rw [hp], M20.below⟩
            · have h18p := beq_eq_false_iff_ne.1 h18
              refine tc_skip (tn_code (tc_seq (tc_region ?_)))
              refine sg 4 [1, 2, 38, 39] [(1, .int .i64 tt), (2, .pointer (some ⟨b1, 0, none⟩)), (38, .int .u64 (IntKind.wrap .u64 ((IntKind.wrap .u64 (codeN x).1) * 281474976710656))), (39, .pointer (some ⟨b1, 2, none⟩))] ?_
              rw [wr_u64 (x := (codeN x).1) (by omega) (by omega)]
              rw [wr_u64 (x := (codeN x).1 * 281474976710656) (by omega) (by omega)]
              refine ld M15 0 40 (.int .i64 x.dst) ?_
              refine sg 4 [1, 2, 43, 44] [(1, .int .i64 tt), (2, .pointer (some ⟨b1, 0, none⟩)), (43, .int .u64 (bits .or .u64 ((codeN x).1 * 281474976710656) (IntKind.wrap .u64 ((IntKind.wrap .u64 x.dst) * 35184372088832)))), (44, .pointer (some ⟨b1, 3, none⟩))] ?_
              rw [wr_u64 (x := x.dst) (by omega) (by omega)]
              rw [wr_u64 (x := x.dst * 35184372088832) (by omega) (by omega)]
              rw [or_sum (a := ((codeN x).1 * 281474976710656)) (b := (x.dst * 35184372088832)) 48 281474976710656 (by decide) (by omega) (by omega) (by omega) (by omega) (by omega)]
              refine ld M15 0 45 (.int .i64 x.src) ?_
              refine sg 8 [52, 53] [(52, .int .u64 (bits .or .u64 (bits .or .u64 (((codeN x).1 * 281474976710656) + (x.dst * 35184372088832)) (IntKind.wrap .u64 ((IntKind.wrap .u64 x.src) * 4398046511104))) (IntKind.wrap .u64 ((IntKind.wrap .u64 tt) * 4294967296)))), (53, .pointer (some ⟨b1, 6, none⟩))] ?_
              rw [wr_u64 (x := x.src) (by omega) (by omega)]
              rw [wr_u64 (x := x.src * 4398046511104) (by omega) (by omega)]
              rw [or_sum (a := (((codeN x).1 * 281474976710656) + (x.dst * 35184372088832))) (b := (x.src * 4398046511104)) 45 35184372088832 (by decide) (by omega) (by omega) (by omega) (by omega) (by omega)]
              rw [wr_u64 (x := tt) (by omega) (by omega)]
              rw [wr_u64 (x := tt * 4294967296) (by omega) (by omega)]
              rw [or_sum (a := ((((codeN x).1 * 281474976710656) + (x.dst * 35184372088832)) + (x.src * 4398046511104))) (b := (tt * 4294967296)) 42 4398046511104 (by decide) (by omega) (by omega) (by omega) (by omega) (by omega)]
              refine ld M15 0 54 (.int .u32 x.imm) ?_
              refine sg 4 [4, 5] [(4, .int .u64 (bits .or .u64 (((((codeN x).1 * 281474976710656) + (x.dst * 35184372088832)) + (x.src * 4398046511104)) + (tt * 4294967296)) (IntKind.wrap .u64 x.imm))), (5, .int .i64 0)] ?_
              rw [wr_u64 (x := x.imm) (by omega) (by omega)]
              rw [or_sum (a := (((((codeN x).1 * 281474976710656) + (x.dst * 35184372088832)) + (x.src * 4398046511104)) + (tt * 4294967296))) (b := x.imm) 32 4294967296 (by decide) (by omega) (by omega) (by omega) (by omega) (by omega)]
              refine to_end rfl (tn_code (tc_ret ?_))
              refine tr_tmp2 rfl rfl rfl ?_
              have hp := putW_yes h7 (by omega : 0 ≤ tt) (by omega) (by first | exact .inl (by omega) | exact .inr h17)
              rw [if_neg (beq_eq_false_iff_ne.1 h18)] at hp
              exact ⟨by rw [hp], M15.below⟩
      · have h9p := of_decide_eq_true h9
        refine sg 8 [1, 2, 6, 31] [(1, .int .i64 tt), (2, .pointer (some ⟨b1, 0, none⟩)), (6, .int .i64 (codeN x).1), (31, .bool true)] ?_
        refine to_end rfl (tn_code (tc_cond_t (fun _ => rfl) (tc_seq (tc_region ?_))))
        refine sg 2 [4, 5] [(4, .int .u64 0), (5, .int .i64 1)] ?_
        refine to_end rfl (tn_code (tc_ret ?_))
        refine tr_tmp2 rfl rfl rfl ?_
        exact ⟨by rw [putW_no (by first | exact .inr (.inl (by omega)) | exact .inr (.inr (.inl (by omega))))], M5.below⟩
    · have h8p := of_decide_eq_true h8
      refine sg 12 [1, 2, 6, 31] [(1, .int .i64 tt), (2, .pointer (some ⟨b1, 0, none⟩)), (6, .int .i64 (codeN x).1), (31, .bool true)] ?_
      refine to_end rfl (tn_code (tc_cond_t (fun _ => rfl) (tc_seq (tc_region ?_))))
      refine sg 2 [4, 5] [(4, .int .u64 0), (5, .int .i64 1)] ?_
      refine to_end rfl (tn_code (tc_ret ?_))
      refine tr_tmp2 rfl rfl rfl ?_
      exact ⟨by rw [putW_no (by first | exact .inr (.inl (by omega)) | exact .inr (.inr (.inl (by omega))))], M5.below⟩
end Go.Proofs.Ytfknhbgghpbkpaa

/- Words read: parts of a word; what Get is. -/
namespace Go.Proofs.Ytfknhbgghpbkpaa
open Go.RowKit Cal Go.Proofs.YtfknhbgghpbkpaaW.PrintWords
theorem and_low {a : Int} (m : Nat) (c : Int) (hc : c + 1 = ((2 ^ m : Nat) : Int)) (hm : m ≤ 32) (h0 : 0 ≤ a) (h1 : a < 18446744073709551616) : bits .and .u64 a c = a % (c + 1) := by
  obtain ⟨n, rfl⟩ := Int.eq_ofNat_of_zero_le h0
  have hp : 2 ^ m ≤ 2 ^ 32 := Nat.pow_le_pow_right (by decide) hm
  have hpos : 0 < 2 ^ m := Nat.two_pow_pos m
  obtain ⟨d, hd⟩ : ∃ d : Nat, d + 1 = 2 ^ m := ⟨2 ^ m - 1, by omega⟩
  obtain rfl : c = (d : Int) := by rw [← hd] at hc; omega
  have e1 : BitVec.ofInt 64 (n : Int) = BitVec.ofNat 64 n := BitVec.ofInt_natCast 64 _
  have e2 : BitVec.ofInt 64 (d : Int) = BitVec.ofNat 64 d := BitVec.ofInt_natCast 64 d
  show IntKind.wrap .u64 (((BitVec.ofInt 64 (n : Int) &&& BitVec.ofInt 64 (d : Int)).toNat : Nat) : Int) = _
  have hand : n &&& d = n % 2 ^ m := by
    rw [show d = 2 ^ m - 1 by omega]; exact Nat.and_two_pow_sub_one_eq_mod n m
  have hlt := Nat.mod_lt n hpos
  rw [e1, e2, BitVec.toNat_and, BitVec.toNat_ofNat, BitVec.toNat_ofNat, Nat.mod_eq_of_lt (by omega), Nat.mod_eq_of_lt (by omega), hand, wr_u64 (by omega) (by omega)]
  rw [hc]
  exact (Int.natCast_emod n (2 ^ m)).symm ▸ rfl
theorem wr32 (v : Int) : IntKind.wrap .u32 v = v % 4294967296 := by
  have h1 : 0 ≤ v % 4294967296 := by omega
  have : IntKind.wrap .u32 v = IntKind.wrap .u32 (v % 4294967296) := by
    simp [IntKind.wrap, IntKind.bits, IntKind.signed]
  rw [this, wr_u32 (by omega) (by omega)]
/-- What a word tells: its instruction, where it goes. -/
def wPat (v : Int) : Pat := patT.getD (v / 281474976710656).toNat patZ
def wInst (v : Int) : Inst := ⟨(wPat v).1, (wPat v).2.1, v / 35184372088832 % 8, v / 4398046511104 % 8, (wPat v).2.2, 0, v % 4294967296⟩
def wTo (v : Int) : Int := v / 4294967296 % 1024
def wOk (v : Int) : Bool := decide (v / 281474976710656 < 40) && decide (putW (wInst v) (wTo v) = (v, 0))
def getW (v : Int) : Inst × Int × Int := if wOk v = true then (wInst v, wTo v, 0) else (Inst.z, 0, 7)
theorem getW_yes {v : Int} (h1 : v / 281474976710656 < 40) (h2 : (putW (wInst v) (wTo v)).2 = 0) (h3 : (putW (wInst v) (wTo v)).1 = v) : getW v = (wInst v, wTo v, 0) := by
  unfold getW wOk
  rw [if_pos]
  rw [Bool.and_eq_true]
  exact ⟨decide_eq_true h1, decide_eq_true (Prod.ext h3 h2)⟩
theorem getW_no {v : Int} (h : ¬ v / 281474976710656 < 40 ∨ (putW (wInst v) (wTo v)).2 ≠ 0 ∨ (putW (wInst v) (wTo v)).1 ≠ v) : getW v = (Inst.z, 0, 7) := by
  unfold getW wOk
  rw [if_neg]
  rw [Bool.and_eq_true]
  rintro ⟨h1, h2⟩
  have h1 := of_decide_eq_true h1
  have h2 := of_decide_eq_true h2
  rcases h with h | h | h
  · exact h h1
  · exact h (by rw [h2])
  · exact h (by rw [h2])
end Go.Proofs.Ytfknhbgghpbkpaa

/- Words of instructions: Get. -/
namespace Go.Proofs.Ytfknhbgghpbkpaa
open Go.RowKit Cal Go.Proofs.YtfknhbgghpbkpaaW.PrintWords
theorem wget_any (v : Int) (w : World) (hv : 0 ≤ v ∧ v < 18446744073709551616) : Calls Try.prog 44 #[.int .u64 v] w fun e w' => e = .returned (.tuple #[.agg (getW v).1.cs, .int .i64 (getW v).2.1, .int .i64 (getW v).2.2]) ∧ Below w.heap.size w w' := by
  have M := Mem.refl w
  refine calls_tc (N := 56) (args := [.int .u64 v]) Try.func44 rfl rfl rfl ?_
  refine tc_seq (tc_region ?_)
  refine nw M 2 #[.int .i64 0, .int .i64 0, .int .i64 0, .int .i64 0, .bool false, .int .i64 0, .int .u32 0] 65 fun b1 w2 M3 => ?_
  refine sg 2 [0, 2] [(0, .int .u64 v), (2, .pointer (some ⟨b1, 0, none⟩))] ?_
  refine to_end rfl (tn_code (tc_seq (tc_region ?_)))
  refine sg 3 [0, 2, 5] [(0, .int .u64 v), (2, .pointer (some ⟨b1, 0, none⟩)), (5, .int .u64 (Int.fdiv v 281474976710656))] ?_
  rw [show Int.fdiv v 281474976710656 = v / 281474976710656 from Int.fdiv_eq_ediv_of_nonneg _ (by decide)]
  refine to_end rfl (tn_code (tc_seq (tc_seq (tc_region ?_))))
  refine sg 2 [0, 2, 5, 14] [(0, .int .u64 v), (2, .pointer (some ⟨b1, 0, none⟩)), (5, .int .u64 (v / 281474976710656)), (14, .bool (decide ((v / 281474976710656) ≥ 40)))] ?_
  refine to_end rfl (tn_code ?_)
  refine tc_cond (b := decide ((v / 281474976710656) ≥ 40)) (fun _ => rfl) (fun h4 => ?_) (fun h4 => ?_)
  · have h4p := of_decide_eq_true h4
    refine tc_seq (tc_region ?_)
    refine sg 1 [2, 15] [(2, .pointer (some ⟨b1, 0, none⟩)), (15, .agg #[.int .i64 0, .int .i64 0, .int .i64 0, .int .i64 0, .bool false, .int .i64 0, .int .u32 0])] ?_
    refine sa M3 0 #[.int .i64 0, .int .i64 0, .int .i64 0, .int .i64 0, .bool false, .int .i64 0, .int .u32 0] fun w5 M6 => ?_
    refine sg 2 [2, 3, 4] [(2, .pointer (some ⟨b1, 0, none⟩)), (3, .int .i64 0), (4, .int .i64 7)] ?_
    refine to_end rfl (tn_code (tc_ret ?_))
    refine tr_cell_tmp2 M6 0 rfl rfl rfl rfl rfl Try.underlying65 rfl (by kernel_rfl) ?_
    have hg := getW_no (v := v) (.inl (by omega))
    exact ⟨by rw [hg]; rfl, M6.below⟩
  · have h4p := of_decide_eq_false h4
    refine tc_skip (tn_code (tc_seq (tc_region ?_)))
    refine cb M3 16 (patterns_any _) fun w7 hb9 M8 => ?_
    refine sg 1 [0, 2, 16, 17] [(0, .int .u64 v), (2, .pointer (some ⟨b1, 0, none⟩)), (16, .agg (patA patT)), (17, .int .u64 (v / 281474976710656))] ?_
    have hn10 : (v / 281474976710656) = ((((v / 281474976710656)).toNat : Nat) : Int) := by omega
    rw [hn10]
    refine ivA 18 (((v / 281474976710656)).toNat) (by omega) patT_len Try.underlying137 ?_
    refine nw M8 6 #[.int .i64 0, .int .i64 0, .bool false] 136 fun b11 w12 M13 => ?_
    refine sa M13 0 (patV (patT.getD ((v / 281474976710656)).toNat patZ)) fun w14 M15 => ?_
    refine to_end rfl (tn_code (tc_seq (tc_region ?_)))
    refine sg 5 [0, 2, 6, 7] [(0, .int .u64 v), (2, .pointer (some ⟨b1, 0, none⟩)), (6, .pointer (some ⟨b11, 0, none⟩)), (7, .int .i64 (IntKind.wrap .i64 (bits .and .u64 (Int.fdiv v 4294967296) 1023)))] ?_
    rw [show Int.fdiv v 4294967296 = v / 4294967296 from Int.fdiv_eq_ediv_of_nonneg _ (by decide)]
    rw [show bits .and .u64 (v / 4294967296) 1023 = (v / 4294967296) % 1024 from and_low (a := (v / 4294967296)) 10 1023 (by decide) (by decide) (by omega) (by omega)]
    rw [wr_i64 (x := ((v / 4294967296) % 1024)) (by omega) (by omega)]
    refine to_end rfl (tn_code (tc_seq (tc_region ?_)))
    refine sg 1 [0, 2, 6, 7, 23] [(0, .int .u64 v), (2, .pointer (some ⟨b1, 0, none⟩)), (6, .pointer (some ⟨b11, 0, none⟩)), (7, .int .i64 ((v / 4294967296) % 1024)), (23, .pointer (some ⟨b11, 0, none⟩))] ?_
    refine ld M15 0 24 (.int .i64 (patT.getD ((v / 281474976710656)).toNat patZ).1) ?_
    refine sg 1 [0, 2, 6, 7, 24, 25] [(0, .int .u64 v), (2, .pointer (some ⟨b1, 0, none⟩)), (6, .pointer (some ⟨b11, 0, none⟩)), (7, .int .i64 ((v / 4294967296) % 1024)), (24, .int .i64 (patT.getD ((v / 281474976710656)).toNat patZ).1), (25, .pointer (some ⟨b11, 1, none⟩))] ?_
    refine ld M15 0 26 (.int .i64 (patT.getD ((v / 281474976710656)).toNat patZ).2.1) ?_
    refine sg 1 [0, 2, 7, 24, 26, 27] [(0, .int .u64 v), (2, .pointer (some ⟨b1, 0, none⟩)), (7, .int .i64 ((v / 4294967296) % 1024)), (24, .int .i64 (patT.getD ((v / 281474976710656)).toNat patZ).1), (26, .int .i64 (patT.getD ((v / 281474976710656)).toNat patZ).2.1), (27, .pointer (some ⟨b11, 2, none⟩))] ?_
    refine ld M15 0 28 (.bool (patT.getD ((v / 281474976710656)).toNat patZ).2.2) ?_
    refine sg 11 [0, 2, 7, 39] [(0, .int .u64 v), (2, .pointer (some ⟨b1, 0, none⟩)), (7, .int .i64 ((v / 4294967296) % 1024)), (39, .agg #[.int .i64 (patT.getD ((v / 281474976710656)).toNat patZ).1, .int .i64 (patT.getD ((v / 281474976710656)).toNat patZ).2.1, .int .i64 (IntKind.wrap .i64 (bits .and .u64 (Int.fdiv v 35184372088832) 7)), .int .i64 (IntKind.wrap .i64 (bits .and .u64 (Int.fdiv v 4398046511104) 7)), .bool (patT.getD ((v / 281474976710656)).toNat patZ).2.2, .int .i64 0, .int .u32 (IntKind.wrap .u32 v)])] ?_
    rw [show Int.fdiv v 35184372088832 = v / 35184372088832 from Int.fdiv_eq_ediv_of_nonneg _ (by decide)]
    rw [show bits .and .u64 (v / 35184372088832) 7 = (v / 35184372088832) % 8 from and_low (a := (v / 35184372088832)) 3 7 (by decide) (by decide) (by omega) (by omega)]
    rw [wr_i64 (x := ((v / 35184372088832) % 8)) (by omega) (by omega)]
    rw [show Int.fdiv v 4398046511104 = v / 4398046511104 from Int.fdiv_eq_ediv_of_nonneg _ (by decide)]
    rw [show bits .and .u64 (v / 4398046511104) 7 = (v / 4398046511104) % 8 from and_low (a := (v / 4398046511104)) 3 7 (by decide) (by decide) (by omega) (by omega)]
    rw [wr_i64 (x := ((v / 4398046511104) % 8)) (by omega) (by omega)]
    rw [wr32 v]
    refine nw M15 8 #[.int .i64 0, .int .i64 0, .int .i64 0, .int .i64 0, .bool false, .int .i64 0, .int .u32 0] 65 fun b16 w17 M18 => ?_
    refine sa M18 0 #[.int .i64 (patT.getD ((v / 281474976710656)).toNat patZ).1, .int .i64 (patT.getD ((v / 281474976710656)).toNat patZ).2.1, .int .i64 ((v / 35184372088832) % 8), .int .i64 ((v / 4398046511104) % 8), .bool (patT.getD ((v / 281474976710656)).toNat patZ).2.2, .int .i64 0, .int .u32 (v % 4294967296)] fun w19 M20 => ?_
    refine to_end rfl (tn_code (tc_seq (tc_seq (tc_region ?_))))
    refine la M20 0 41 #[.int .i64 (patT.getD ((v / 281474976710656)).toNat patZ).1, .int .i64 (patT.getD ((v / 281474976710656)).toNat patZ).2.1, .int .i64 ((v / 35184372088832) % 8), .int .i64 ((v / 4398046511104) % 8), .bool (patT.getD ((v / 281474976710656)).toNat patZ).2.2, .int .i64 0, .int .u32 (v % 4294967296)] (hu := Try.underlying65) ?_
    refine sg 1 [0, 2, 7, 8, 41, 42] [(0, .int .u64 v), (2, .pointer (some ⟨b1, 0, none⟩)), (7, .int .i64 ((v / 4294967296) % 1024)), (8, .pointer (some ⟨b16, 0, none⟩)), (41, .agg #[.int .i64 (patT.getD ((v / 281474976710656)).toNat patZ).1, .int .i64 (patT.getD ((v / 281474976710656)).toNat patZ).2.1, .int .i64 ((v / 35184372088832) % 8), .int .i64 ((v / 4398046511104) % 8), .bool (patT.getD ((v / 281474976710656)).toNat patZ).2.2, .int .i64 0, .int .u32 (v % 4294967296)]), (42, .int .i64 ((v / 4294967296) % 1024))] ?_
    refine cb M20 43 (iput_any ⟨(patT.getD ((v / 281474976710656)).toNat patZ).1, (patT.getD ((v / 281474976710656)).toNat patZ).2.1, ((v / 35184372088832) % 8), ((v / 4398046511104) % 8), (patT.getD ((v / 281474976710656)).toNat patZ).2.2, 0, (v % 4294967296)⟩ ((v / 4294967296) % 1024) _ (by show 0 ≤ v % 4294967296 ∧ v % 4294967296 < 4294967296; omega)) fun w21 hb23 M22 => ?_
    refine sg 5 [0, 2, 7, 8, 9, 10] [(0, .int .u64 v), (2, .pointer (some ⟨b1, 0, none⟩)), (7, .int .i64 ((v / 4294967296) % 1024)), (8, .pointer (some ⟨b16, 0, none⟩)), (9, .int .u64 (putW ⟨(patT.getD ((v / 281474976710656)).toNat patZ).1, (patT.getD ((v / 281474976710656)).toNat patZ).2.1, ((v / 35184372088832) % 8), ((v / 4398046511104) % 8), (patT.getD ((v / 281474976710656)).toNat patZ).2.2, 0, (v % 4294967296)⟩ ((v / 4294967296) % 1024)).1), (10, .int .i64 (putW ⟨(patT.getD ((v / 281474976710656)).toNat patZ).1, (patT.getD ((v / 281474976710656)).toNat patZ).2.1, ((v / 35184372088832) % 8), ((v / 4398046511104) % 8), (patT.getD ((v / 281474976710656)).toNat patZ).2.2, 0, (v % 4294967296)⟩ ((v / 4294967296) % 1024)).2)] ?_
    refine to_end rfl (tn_code (tc_seq (tc_region ?_)))
    refine sg 3 [0, 2, 7, 8, 9, 48] [(0, .int .u64 v), (2, .pointer (some ⟨b1, 0, none⟩)), (7, .int .i64 ((v / 4294967296) % 1024)), (8, .pointer (some ⟨b16, 0, none⟩)), (9, .int .u64 (putW ⟨(patT.getD ((v / 281474976710656)).toNat patZ).1, (patT.getD ((v / 281474976710656)).toNat patZ).2.1, ((v / 35184372088832) % 8), ((v / 4398046511104) % 8), (patT.getD ((v / 281474976710656)).toNat patZ).2.2, 0, (v % 4294967296)⟩ ((v / 4294967296) % 1024)).1), (48, .bool ((putW ⟨(patT.getD ((v / 281474976710656)).toNat patZ).1, (patT.getD ((v / 281474976710656)).toNat patZ).2.1, ((v / 35184372088832) % 8), ((v / 4398046511104) % 8), (patT.getD ((v / 281474976710656)).toNat patZ).2.2, 0, (v % 4294967296)⟩ ((v / 4294967296) % 1024)).2 != 0))] ?_
    rcases h24 : ((putW ⟨(patT.getD ((v / 281474976710656)).toNat patZ).1, (patT.getD ((v / 281474976710656)).toNat patZ).2.1, ((v / 35184372088832) % 8), ((v / 4398046511104) % 8), (patT.getD ((v / 281474976710656)).toNat patZ).2.2, 0, (v % 4294967296)⟩ ((v / 4294967296) % 1024)).2 != 0 : Bool) with _ | _
    · have h24p := bne_eq_false_iff_eq.1 h24
      refine sg 4 [2, 7, 8, 52] [(2, .pointer (some ⟨b1, 0, none⟩)), (7, .int .i64 ((v / 4294967296) % 1024)), (8, .pointer (some ⟨b16, 0, none⟩)), (52, .bool ((putW ⟨(patT.getD ((v / 281474976710656)).toNat patZ).1, (patT.getD ((v / 281474976710656)).toNat patZ).2.1, ((v / 35184372088832) % 8), ((v / 4398046511104) % 8), (patT.getD ((v / 281474976710656)).toNat patZ).2.2, 0, (v % 4294967296)⟩ ((v / 4294967296) % 1024)).1 != v))] ?_
      refine to_end rfl (tn_code ?_)
      refine tc_cond (b := (putW ⟨(patT.getD ((v / 281474976710656)).toNat patZ).1, (patT.getD ((v / 281474976710656)).toNat patZ).2.1, ((v / 35184372088832) % 8), ((v / 4398046511104) % 8), (patT.getD ((v / 281474976710656)).toNat patZ).2.2, 0, (v % 4294967296)⟩ ((v / 4294967296) % 1024)).1 != v) (fun _ => rfl) (fun h25 => ?_) (fun h25 => ?_)
      · have h25p := bne_iff_ne.1 h25
        refine tc_seq (tc_region ?_)
        refine sg 1 [2, 53] [(2, .pointer (some ⟨b1, 0, none⟩)), (53, .agg #[.int .i64 0, .int .i64 0, .int .i64 0, .int .i64 0, .bool false, .int .i64 0, .int .u32 0])] ?_
        refine sa M22 2 #[.int .i64 0, .int .i64 0, .int .i64 0, .int .i64 0, .bool false, .int .i64 0, .int .u32 0] fun w26 M27 => ?_
        refine sg 2 [2, 3, 4] [(2, .pointer (some ⟨b1, 0, none⟩)), (3, .int .i64 0), (4, .int .i64 7)] ?_
        refine to_end rfl (tn_code (tc_ret ?_))
        refine tr_cell_tmp2 M27 2 rfl rfl rfl rfl rfl Try.underlying65 rfl (by kernel_rfl) ?_
        have hg := getW_no (v := v) (.inr (.inr (bne_iff_ne.1 h25)))
        exact ⟨by rw [hg]; rfl, M27.below⟩
      · have h25p := bne_eq_false_iff_eq.1 h25
        refine tc_skip (tn_code (tc_seq (tc_region ?_)))
        refine la M22 0 54 #[.int .i64 (patT.getD ((v / 281474976710656)).toNat patZ).1, .int .i64 (patT.getD ((v / 281474976710656)).toNat patZ).2.1, .int .i64 ((v / 35184372088832) % 8), .int .i64 ((v / 4398046511104) % 8), .bool (patT.getD ((v / 281474976710656)).toNat patZ).2.2, .int .i64 0, .int .u32 (v % 4294967296)] (hu := Try.underlying65) ?_
        refine sg 1 [2, 54, 55] [(2, .pointer (some ⟨b1, 0, none⟩)), (54, .agg #[.int .i64 (patT.getD ((v / 281474976710656)).toNat patZ).1, .int .i64 (patT.getD ((v / 281474976710656)).toNat patZ).2.1, .int .i64 ((v / 35184372088832) % 8), .int .i64 ((v / 4398046511104) % 8), .bool (patT.getD ((v / 281474976710656)).toNat patZ).2.2, .int .i64 0, .int .u32 (v % 4294967296)]), (55, .int .i64 ((v / 4294967296) % 1024))] ?_
        refine sa M22 2 #[.int .i64 (patT.getD ((v / 281474976710656)).toNat patZ).1, .int .i64 (patT.getD ((v / 281474976710656)).toNat patZ).2.1, .int .i64 ((v / 35184372088832) % 8), .int .i64 ((v / 4398046511104) % 8), .bool (patT.getD ((v / 281474976710656)).toNat patZ).2.2, .int .i64 0, .int .u32 (v % 4294967296)] fun w28 M29 => ?_
        refine sg 2 [2, 3, 4] [(2, .pointer (some ⟨b1, 0, none⟩)), (3, .int .i64 ((v / 4294967296) % 1024)), (4, .int .i64 0)] ?_
        refine to_end rfl (tn_code (tc_ret ?_))
        refine tr_cell_tmp2 M29 2 rfl rfl rfl rfl rfl Try.underlying65 rfl (by kernel_rfl) ?_
        have hg := getW_yes (v := v) (by omega) (bne_eq_false_iff_eq.1 h24) (bne_eq_false_iff_eq.1 h25)
        exact ⟨by rw [hg]; rfl, M29.below⟩
    · have h24p := bne_iff_ne.1 h24
      refine sg 4 [2, 7, 8, 52] [(2, .pointer (some ⟨b1, 0, none⟩)), (7, .int .i64 ((v / 4294967296) % 1024)), (8, .pointer (some ⟨b16, 0, none⟩)), (52, .bool true)] ?_
      refine to_end rfl (tn_code (tc_cond_t (fun _ => rfl) (tc_seq (tc_region ?_))))
      refine sg 1 [2, 53] [(2, .pointer (some ⟨b1, 0, none⟩)), (53, .agg #[.int .i64 0, .int .i64 0, .int .i64 0, .int .i64 0, .bool false, .int .i64 0, .int .u32 0])] ?_
      refine sa M22 2 #[.int .i64 0, .int .i64 0, .int .i64 0, .int .i64 0, .bool false, .int .i64 0, .int .u32 0] fun w30 M31 => ?_
      refine sg 2 [2, 3, 4] [(2, .pointer (some ⟨b1, 0, none⟩)), (3, .int .i64 0), (4, .int .i64 7)] ?_
      refine to_end rfl (tn_code (tc_ret ?_))
      refine tr_cell_tmp2 M31 2 rfl rfl rfl rfl rfl Try.underlying65 rfl (by kernel_rfl) ?_
      have hg := getW_no (v := v) (.inr (.inl (bne_iff_ne.1 h24)))
      exact ⟨by rw [hg]; rfl, M31.below⟩
end Go.Proofs.Ytfknhbgghpbkpaa
