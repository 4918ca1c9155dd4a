/- What the law of layer 13 needs besides: make in a region that draws; few; what is awake. -/
import Derived.Test.YtfknhbgghpbkpaaAr8
namespace Go.Proofs.Ytfknhbgghpbkpaa
open Go.RowKit Cal Go.Proofs.YtfknhbgghpbkpaaW.PrintWords
theorem few_len {l : List Blk} (h : fewM l = true) : l.length ≤ 1000000 := by
  unfold fewM at h
  rw [Bool.and_eq_true] at h
  have := of_decide_eq_true h.1
  omega
theorem few_sm {l : List Blk} (h : fewM l = true) : ∀ j, (l.getD j Blk.z).w.length ≤ 1000000 := fun j => by
  unfold fewM at h
  rw [Bool.and_eq_true, List.all_eq_true] at h
  by_cases hj : j < l.length
  · have := of_decide_eq_true (h.2 _ (at_mem Blk.z hj)); omega
  · rw [show l.getD j Blk.z = Blk.z by simp [List.getElem?_eq_none (show l.length ≤ j by omega)]]; decide
namespace Cal
section
variable {P : Program} {N : Nat} {dm : List Deferred} {Q : Exit → Act → World → Prop} {fr : Fr} {wr w : World} {L : List Ent} {all : Array Oper} {S : World → Prop} {ds : List Nat} {fuel : Nat} {listed : Array Bool} {α : Type} {e : TypeId}
theorem te_mk {i : Nat} {o : Oper} (M : Mem wr w L) (dst n : Nat) (d : Kd α) (z0 : α) (z : Value) (bytes : Nat) {T : TypeId} (hu : P.underlying T = some (.slice e)) (hn : n * bytes ≤ 1099511627776) (hz0 : ∀ w' ok, d.M w' 0 ok z0 z.cells.toList)
    (hSk : ∀ b w', Mem wr w' (row d e (.slice (some ⟨b, 0, none⟩) n n) (List.replicate n z0) :: L) → i ∉ ds → S w → S w')
    (ht : ∀ b w', Mem wr w' (row d e (.slice (some ⟨b, 0, none⟩) n n) (List.replicate n z0) :: L) → TY dm P N Q all S ds fuel (listed.setIfInBounds i true) ((dst, .slice (some ⟨b, 0, none⟩) n n) :: fr) w') {x y : Operand} {kl kc : IntKind}
    (ho : all[i]? = some o := by rfl) (hd : o.dst = some dst := by rfl) (hop : o.op = .makeSlice T x y := by rfl) (hw : ∀ j, Region.wanted o (yl N all j fr) = true := by intro j; rfl)
    (hx : ∀ j, ev j fr x = .int kl (n : Int) := by intro j; rfl) (hy : ∀ j, ev j fr y = .int kc (n : Int) := by intro j; rfl) (hi : (P.info? e).map (fun i => (i.zero, i.size, i.bytes)) = some (some z, d.sz, bytes) := by kernel_rfl) (hzs : z.cells.size = d.sz := by rfl) (hs0 : Nat.blt 0 d.sz = true := by rfl)
    (hb0 : Nat.blt 0 bytes = true := by rfl) (hN : Nat.blt dst N = true := by rfl) : TE dm P N Q all S ds fuel listed fr w i := by
  obtain ⟨inf, hi0, hzz⟩ := Option.map_eq_some_iff.1 hi
  simp only [Prod.mk.injEq] at hzz
  obtain ⟨hz, hsz, hby⟩ := hzz
  have hb0 := blt_lt hb0
  have hle : n ≤ n * bytes := Nat.le_mul_of_pos_right _ hb0
  have hmul : (inf.bytes : Int) * (n : Int) = ((n * bytes : Nat) : Int) := by rw [hby, Nat.mul_comm]; rfl
  have hr := run_make (P := P) w T e inf z hu hi0 hz kl kc (n : Int) (n : Int) (by omega) (Int.le_refl _) (by rw [hmul]; omega) (by omega)
  simp only [Int.toNat_natCast, hsz] at hr
  have hrep : Reps (fun x c => ∀ w' ok, d.M w' 0 ok x c) d.sz (List.replicate n z0) (madeCells z.cells (n * d.sz)).toList := Kd.reps_made hzs (blt_lt hs0) (fun w' ok => hz0 w' ok) n
  have M' := M.builtF d e (List.replicate n z0) (madeCells z.cells (n * d.sz)) hrep (by rw [List.length_replicate]; omega)
  rw [List.length_replicate] at M'
  refine te_op (w' := w.alloc (.cells (madeCells z.cells (n * d.sz)) e)) dst (.slice (some ⟨w.heap.size, 0, none⟩) n n) (fun j => ?_) (hSk _ _ M') (ht _ _ M') ho hd hw hN
  unfold execOp
  simp only [hop, hx j, hy j, Sem.run_bind, hr, Result.andThen_ok, Sem.run_pure]
theorem te_la {i : Nat} {o : Oper} (M : Mem wr w L) (p dst : Nat) (vs : Array Value) (h : TY dm P N Q all S ds fuel (listed.setIfInBounds i true) ((dst, .agg vs) :: fr) w) {ty : TypeId} {x : Operand} {b n : Nat} {cs : Array Value} {t : TypeId} {D : TypeDesc} (hu : P.underlying ty = some D) (hD : D.isRow = true := by rfl)
    (ho : all[i]? = some o := by rfl) (hd : o.dst = some dst := by rfl) (hop : o.op = .load ty x := by rfl) (hw : ∀ j, Region.wanted o (yl N all j fr) = true := by intro j; rfl)
    (hx : ∀ j, ev j fr x = .pointer (some ⟨b, n, none⟩) := by intro j; rfl) (hp : L[p]? = some (blk b cs t) := by rfl) (hv : cs.extract n (n + vs.size) = vs := by rfl) (hi : (P.info? ty).map (·.size) = some vs.size := by kernel_rfl) (hN : Nat.blt dst N = true := by rfl) : TE dm P N Q all S ds fuel listed fr w i :=
  te_op dst _ (fun j => rla M p hu hD hop (hx j) hp hv hi) (fun _ h => h) h ho hd hw hN
end
end Cal
def aw1 : List Blk := [⟨1, 0, List.replicate 4 0⟩]
def aw2 : List Blk := [⟨1, 0, List.replicate 4 0⟩, ⟨2, 6, List.replicate 2 0⟩]
theorem aw_put1 : putM 10 [] 1 0 (List.replicate 4 0) = ((10, aw1), 0) := by decide
theorem aw_put2 : putM 10 aw1 2 6 (List.replicate 2 0) = ((10, aw2), 0) := by decide
theorem aw_find : findM 10 aw2 2 = (4, true) := by decide
theorem aw_left : leftM 10 aw2 = 4 := by decide
theorem aw_may13 : mMay 10 aw2 = true := by decide
theorem sm_nil : ∀ j, (([] : List Blk).getD j Blk.z).w.length ≤ 1000000 := few_sm (by decide)
theorem sm_aw1 : ∀ j, (aw1.getD j Blk.z).w.length ≤ 1000000 := few_sm (by decide)
theorem sm_aw2 : ∀ j, (aw2.getD j Blk.z).w.length ≤ 1000000 := few_sm (by decide)
end Go.Proofs.Ytfknhbgghpbkpaa
