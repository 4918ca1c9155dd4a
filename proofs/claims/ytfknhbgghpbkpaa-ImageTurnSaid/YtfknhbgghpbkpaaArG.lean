/- The gaps of a memory, one by one: what the iterator gives; a round of it. -/
import Derived.Test.YtfknhbgghpbkpaaArN
namespace Go.Proofs.Ytfknhbgghpbkpaa
open Go.RowKit Cal Go.Proofs.YtfknhbgghpbkpaaW.PrintWords
def gapsTo (l : List Blk) : Nat → List (Int × Int)
  | 0 => []
  | k + 1 => gapsTo l k ++ if (l.getD k Blk.z).pos > lastP l k then [(lastP l k, (l.getD k Blk.z).pos)] else []
def gapsF (cap : Int) (l : List Blk) : List (Int × Int) := gapsTo l l.length ++ if lastP l l.length < cap then [(lastP l l.length, cap)] else []
theorem gapsTo_yes {l : List Blk} {k : Nat} (h : (l.getD k Blk.z).pos > lastP l k) : gapsTo l (k + 1) = gapsTo l k ++ [(lastP l k, (l.getD k Blk.z).pos)] := by rw [gapsTo, if_pos h]
theorem gapsTo_no {l : List Blk} {k : Nat} (h : ¬ (l.getD k Blk.z).pos > lastP l k) : gapsTo l (k + 1) = gapsTo l k := by rw [gapsTo, if_neg h, List.append_nil]
theorem gapsTo_len (l : List Blk) : ∀ k, (gapsTo l k).length ≤ k
  | 0 => Nat.le_refl _
  | k + 1 => by
    have := gapsTo_len l k
    rw [gapsTo]
    split <;> simp <;> omega
theorem gapsTo_pre (l : List Blk) (k : Nat) : ∀ m, gapsTo l k <+: gapsTo l (k + m)
  | 0 => List.prefix_refl _
  | m + 1 => (gapsTo_pre l k m).trans (List.prefix_append _ _)
theorem gapsTo_F {cap : Int} {l : List Blk} {k : Nat} (h : k ≤ l.length) : gapsTo l k <+: gapsF cap l := by
  have := gapsTo_pre l k (l.length - k)
  rw [show k + (l.length - k) = l.length by omega] at this
  exact this.trans (List.prefix_append _ _)
namespace Cal
theorem ab {β : Type} {J : β → World → Prop} {n : Nat} (h : AbidesFrom n J) {s : β} {W W' : World} (hj : J s W) (hb : Below W.heap.size W W') : J s W' :=
  h s W W' none hj ⟨hb.os, hb.tape, hb.output, hb.size, fun k hk _ => hb.block k hk⟩ (fun r e => by cases e)
/-- Where an iterator stands between its rounds. -/
structure GI {α : Type} (wr : World) (n0 b : Nat) (cs : Array Value) (t : TypeId) (J : List α → World → Prop) (s : List α) (W : World) : Prop where
  be : Below wr.heap.size wr W
  n0 : n0 ≤ W.heap.size
  bx : W.heap[b]? = some (.cells cs t (0, 0))
  j : J s W
theorem GI.call {α : Type} {wr : World} {n0 b m : Nat} {cs : Array Value} {t : TypeId} {J : List α → World → Prop} {s : List α} {W W' : World} (h : GI wr n0 b cs t J s W) (hJ : AbidesFrom m J) (hb : Below W.heap.size W W') : GI wr n0 b cs t J s W' :=
  ⟨below_then h.be h.be.size hb, Nat.le_trans h.n0 hb.size, below_heap hb h.bx, ab hJ h.j hb⟩
theorem GI.round {α : Type} {wr : World} {n0 b : Nat} {cs : Array Value} {t : TypeId} {J : List α → World → Prop} {s s' : List α} {X : Nat → Prop} {W W' : World} (h : GI wr n0 b cs t J s W) (hX : ∀ k, X k → wr.heap.size ≤ k ∧ k ≠ b) (hn : wr.heap.size ≤ n0) (hk : KB n0 X W W') (hj : J s' W') : GI wr n0 b cs t J s' W' :=
  ⟨h.be.trans ⟨hk.os, hk.tape, hk.output, hk.size, fun k hlt => hk.low k (by omega) (fun hx => by have := (hX k hx).1; omega)⟩, Nat.le_trans h.n0 hk.size, hk.cells b _ h.bx rfl (fun hx => (hX b hx).2 rfl), hj⟩
theorem calls_tci {P : Program} {f : FuncId} {fn : Func} {c : Code} {args : List Value} {w : World} {R : Ending → World → Prop} {N : Nat} (hf : P.funcs[f]? = some fn) (hb : fn.body = some c) (hN : fn.ntmps = N) (hl : Nat.ble args.length N = true)
    (h : TCi none 2 [] P N (bodyPost P fn R) c [] (fr0 0 args) w) : CallsIn (rF none) 2 P f args.toArray w R := by
  have hle : args.length ≤ N := Nat.le_of_ble_eq_true hl
  refine callsIn_of_wp hf hb trivial (h (fun _ => undef) _ ⟨?_, rfl, fun t => ?_⟩) rfl
  · simp [hN]; omega
  · simp only [gv, look_fr0, Nat.zero_le, if_true, Nat.sub_zero, Array.getD_eq_getD_getElem?, Array.getElem?_append, List.size_toArray, List.getElem?_toArray]
    split
    · rfl
    · rename_i hlt
      rw [List.getElem?_eq_none (by omega)]
      simp only [Array.getElem?_replicate, Option.getD_none]
      split <;> rfl
theorem Mem.ends {wr w : World} {L : List Ent} (M : Mem wr w L) (p : Nat) {b : Nat} {cs : Array Value} {t : TypeId} (hp : L[p]? = some (blk b cs t)) : wr.heap.size ≤ b ∧ b < w.heap.size := by
  obtain ⟨S, hS, he⟩ := M.get p hp
  exact hS b he.1
theorem ne_blk {w : World} {b b' : Nat} {cs cs' : Array Value} {t t' : TypeId} (h1 : w.heap[b]? = some (.cells cs t (0, 0))) (h2 : w.heap[b']? = some (.cells cs' t' (0, 0))) (hs : cs.size ≠ cs'.size) : b ≠ b' := fun e => by
  subst e
  rw [h1] at h2
  injection h2 with h2
  injection h2 with h2 _ _
  exact hs (by rw [h2])
theorem tr_cell_cell {P : Program} {N : Nat} {fn : Func} {R : Ending → World → Prop} {fr : Fr} {wr w : World} {L : List Ent} (M : Mem wr w L) (p q : Nat) {t u : Nat} {ty ty2 T T2 : TypeId} (hres : fn.results = #[.cell t ty, .cell u ty2]) {b b2 : Nat} {cs cs2 : Array Value} {v v2 : Value} (hv : look fr t = some (.pointer (some ⟨b, 0, none⟩))) (hv2 : look fr u = some (.pointer (some ⟨b2, 0, none⟩)))
    (hp : L[p]? = some (blk b cs T)) (hq : L[q]? = some (blk b2 cs2 T2)) (h0 : cs[0]? = some v) (h02 : cs2[0]? = some v2) (hg : (isAgg ty).run P w = .ok false w) (hg2 : (isAgg ty2).run P w = .ok false w) (hR : R (.returned (.tuple #[v, v2])) w) : TR [] N (bodyPost P fn R) fr w := tr_any (fun tmps ⟨j, hj⟩ => by
  have h1 := hj t
  have h4 := hj u
  unfold gv at h1 h4
  rw [hv] at h1
  rw [hv2] at h4
  have h2 := run_cell_one (P := P) hg ((blk_cell (M.blk_at p hp) 0).trans h0)
  have h6 := run_cell_one (P := P) hg2 ((blk_cell (M.blk_at q hq) 0).trans h02)
  have h3 : tmps[t]?.getD undef = .pointer (some ⟨b, 0, none⟩) := by simpa using h1
  have h5 : tmps[u]?.getD undef = .pointer (some ⟨b2, 0, none⟩) := by simpa using h4
  simp [results, hres, h3, h5, asAddr, h2, h6]) hR
theorem run_res0 {P : Program} {fn : Func} {tmps : Array Value} {w : World} (hres : fn.results = #[]) : (results fn tmps).run P w = .ok (.tuple #[]) w := by
  unfold results
  simp [hres, Sem.run_bind, Sem.run_pure]
section
variable {r : Option Nat} {m : Nat} {dm : List Deferred} {P : Program} {N : Nat} {Q : Exit → Act → World → Prop} {k : List It} {fr : Fr} {wr w : World} {L : List Ent}
theorem ldi {all : Array Oper} {i : Nat} {o : Oper} (M : Mem wr w L) (p : Nat) (d : Nat) (v : Value) (h : TOi r m dm P N Q all k ((d, v) :: fr) w (i + 1)) {ty : TypeId} {x : Operand} {b n : Nat} {cs : Array Value} {t : TypeId}
    (ho : all.toList[i]? = some o := by rfl) (hd : o.dst = some d := by rfl) (hop : o.op = .load ty x := by rfl) (hw : ∀ j, Region.wanted o (yl N all j fr) = true := by intro j; rfl)
    (hx : ∀ j, ev j fr x = .pointer (some ⟨b, n, none⟩) := by intro j; rfl) (hp : L[p]? = some (blk b cs t) := by rfl) (hv : cs[n]? = some v := by rfl) (hg : (isAgg ty).run P w = .ok false w := by kernel_rfl) (hnd : noDef [o] = true := by kernel_rfl) (hN : Nat.blt d N = true := by rfl) : TOi r m dm P N Q all k fr w i :=
  toi_op d (fun j => exec_load hop (hx j) (run_load_one hg ((blk_cell (M.blk_at p hp) n).trans hv))) h ho hd hw hnd hN
theorem lei {all : Array Oper} {i : Nat} {o : Oper} (d : Nat) (v : Value) {a : Addr} (hv : w.cell? a = some v) (h : TOi r m dm P N Q all k ((d, v) :: fr) w (i + 1)) {ty : TypeId} {x : Operand}
    (ho : all.toList[i]? = some o := by rfl) (hd : o.dst = some d := by rfl) (hop : o.op = .load ty x := by rfl) (hw : ∀ j, Region.wanted o (yl N all j fr) = true := by intro j; rfl)
    (hx : ∀ j, ev j fr x = .pointer (some a) := by intro j; rfl) (hg : (isAgg ty).run P w = .ok false w := by kernel_rfl) (hnd : noDef [o] = true := by kernel_rfl) (hN : Nat.blt d N = true := by rfl) : TOi r m dm P N Q all k fr w i :=
  toi_op d (fun j => exec_load hop (hx j) (run_load_one hg hv)) h ho hd hw hnd hN
end
end Cal
end Go.Proofs.Ytfknhbgghpbkpaa
