/- Regions that draw their order but leave none to choose: no cut behind them; rows of the call's own in them. -/
import Derived.Test.YtfknhbgghpbkpaaDraw
import Derived.Test.YtfknhbgghpbkpaaOwn
namespace Go.Proofs.Ytfknhbgghpbkpaa.Cal
open Go.RowKit Go.Proofs.YtfknhbgghpbkpaaW.PrintWords Go.Proofs.YtfknhbgghpbkpaaW.PrintLast
section
variable {dm : List Deferred} {P : Program} {N : Nat} {Q : Exit → Act → World → Prop} {k : List It} {fr fr' : Fr} {wr w : World} {L : List Ent} {all : Array Oper} {S : World → Prop} {ds : List Nat} {fuel : Nat} {listed : Array Bool} {α : Type} {d : Kd α} {e : TypeId} {xs ys : List α}
theorem pok_cont (hQ : POk Q) : POk (cont P Q k) := fun c d v a w h => by
  rw [cont_panic] at h ⊢
  exact hQ c d v a w h
theorem tc_drawL {id : Nat} (S : World → Prop) (ds : List Nat) (hm : P.follows .mixedOrders = true) (h1 : TY dm P N (cont P Q k) all S ds all.size (Array.replicate all.size false) fr w.drew) : TC dm P N Q (.region id all true) k fr w :=
  fun j a ha => wp_region_last hm (h1 j a ha)
theorem ty_endL {listed : Array Bool} (h : TN dm P N Q k fr w) (hr : Region.ready .any all listed = [] := by kernel_rfl) : TY dm P N (cont P Q k) all S ds fuel listed fr w := fun j a ha => wpAnyLast_done hr (h j a ha) fuel
theorem te_ce {i : Nat} {o : Oper} {G : FuncId} {args : Array Value} {R : Ending → World → Prop} (d : Nat) (hc : Calls P G args w R)
    (h : ∀ e w', R e w' → ∃ v, e = .returned v ∧ (i ∉ ds → S w → S w') ∧ TY dm P N Q all S ds fuel (listed.setIfInBounds i true) ((d, v) :: fr) w')
    (ho : all[i]? = some o := by rfl) (hd : o.dst = some d := by rfl) (hw : ∀ j, Region.wanted o (yl N all j fr) = true := by intro j; rfl) (hr : ∀ j, (execOp (ev j fr) o).run P w = .ok (.enter G args) w := by intro j; kernel_rfl) (hN : Nat.blt d N = true := by rfl) :
    TE dm P N Q all S ds fuel listed fr w i := te_call d hc h ho hd hw hr hN
theorem te_bs1 {i : Nat} {o : Oper} {x : α} {cs : Array Value} (M : Mem wr w (owns d 0 x cs.toList :: L)) (dst : Nat) (e : TypeId) (hSk : ∀ b w', Mem wr w' (row d e (.slice (some ⟨b, 0, none⟩) 1 1) [x] :: L) → i ∉ ds → S w → S w')
    (h : ∀ b w', Mem wr w' (row d e (.slice (some ⟨b, 0, none⟩) 1 1) [x] :: L) → TY dm P N Q all S ds fuel (listed.setIfInBounds i true) ((dst, .slice (some ⟨b, 0, none⟩) 1 1) :: fr) w')
    (ho : all[i]? = some o := by rfl) (hd : o.dst = some dst := by rfl) (hw : ∀ j, Region.wanted o (yl N all j fr) = true := by intro j; rfl)
    (hr : ∀ j, (execOp (ev j fr) o).run P w = .ok (.value (.slice (some ⟨w.heap.size, 0, none⟩) 1 1)) { w with heap := w.heap.push (.cells cs e (0, 0)) } := by intro j; kernel_rfl) (hN : Nat.blt dst N = true := by rfl) : TE dm P N Q all S ds fuel listed fr w i :=
  te_op dst _ hr (hSk _ _ (M.built1 e)) (h _ _ (M.built1 e)) ho hd hw hN
theorem te_bsF {i : Nat} {o : Oper} (M : Mem wr w L) (dst : Nat) (d : Kd α) (e : TypeId) (xs : List α) (cs : Array Value) (hrep : Reps (fun x c => ∀ w' ok, d.M w' 0 ok x c) d.sz xs cs.toList) (hm : xs.length ≤ 9223372036854775807)
    (hSk : ∀ b w', Mem wr w' (row d e (.slice (some ⟨b, 0, none⟩) xs.length xs.length) xs :: L) → i ∉ ds → S w → S w')
    (h : ∀ b w', Mem wr w' (row d e (.slice (some ⟨b, 0, none⟩) xs.length xs.length) xs :: L) → TY dm P N Q all S ds fuel (listed.setIfInBounds i true) ((dst, .slice (some ⟨b, 0, none⟩) xs.length xs.length) :: fr) w')
    (ho : all[i]? = some o := by rfl) (hd : o.dst = some dst := by rfl) (hw : ∀ j, Region.wanted o (yl N all j fr) = true := by intro j; rfl)
    (hr : ∀ j, (execOp (ev j fr) o).run P w = .ok (.value (.slice (some ⟨w.heap.size, 0, none⟩) xs.length xs.length)) { w with heap := w.heap.push (.cells cs e (0, 0)) } := by intro j; kernel_rfl) (hN : Nat.blt dst N = true := by rfl) : TE dm P N Q all S ds fuel listed fr w i :=
  te_op dst _ hr (hSk _ _ (M.builtF d e xs cs hrep hm)) (h _ _ (M.builtF d e xs cs hrep hm)) ho hd hw hN
theorem te_ap {i : Nat} {o : Oper} {v : Value} {A : Option Addr} {m c : Nat} (M : Mem wr w (row d e v xs :: row d e (.slice A m c) ys :: L)) (dst : Nat) {t : TypeId} (ht : P.underlying t = some (.slice e)) (bytes : Nat) (hl : (xs.length + ys.length) * bytes ≤ 140737488355328)
    (hSk : ∀ A' c' w', Mem wr w' (row d e (.slice A' (xs ++ ys).length c') (xs ++ ys) :: L) → i ∉ ds → S w → S w')
    (h : ∀ A' c' w', Mem wr w' (row d e (.slice A' (xs ++ ys).length c') (xs ++ ys) :: L) → TY dm P N Q all S ds fuel (listed.setIfInBounds i true) ((dst, .slice A' (xs ++ ys).length c') :: fr) w') {z : Value} {s x : Operand}
    (ho : all[i]? = some o := by rfl) (hd : o.dst = some dst := by rfl) (hop : o.op = .call { callee := .builtin .append, args := #[s, x], argTypes := #[t, t] } := by rfl) (hw : ∀ j, Region.wanted o (yl N all j fr) = true := by intro j; rfl)
    (h1 : ∀ j, ev j fr s = v := by intro j; rfl) (h2 : ∀ j, ev j fr x = .slice A m c := by intro j; rfl) (hi : (P.info? e).map (fun i => (i.zero, i.size, i.bytes)) = some (some z, d.sz, bytes) := by kernel_rfl) (hz : z.cells.size = d.sz := by rfl) (hs0 : Nat.blt 0 d.sz = true := by rfl) (hb0 : Nat.blt 0 bytes = true := by rfl) (hN : Nat.blt dst N = true := by rfl) : TE dm P N Q all S ds fuel listed fr w i := by
  obtain ⟨A', c', w', hr, M'⟩ := M.app (P := P) (t := t) (ty := o.type) ht hi hz (blt_lt hs0) (blt_lt hb0) hl
  exact te_op dst _ (fun j => exec_append hop (h1 j) (h2 j) hr) (hSk A' c' w' M') (h A' c' w' M') ho hd hw hN
theorem te_apC {i : Nat} {o : Oper} {v : Value} {A : Option Addr} {c : Nat} (M : Mem wr w (row d e v xs :: L)) (dst : Nat) (hf : Flat d) (hC : d.C w A ys.length ys) {t : TypeId} (ht : P.underlying t = some (.slice e)) (bytes : Nat) (hl : (xs.length + ys.length) * bytes ≤ 140737488355328)
    (hSk : ∀ A' c' w', Mem wr w' (row d e (.slice A' (xs ++ ys).length c') (xs ++ ys) :: L) → i ∉ ds → S w → S w')
    (h : ∀ A' c' w', Mem wr w' (row d e (.slice A' (xs ++ ys).length c') (xs ++ ys) :: L) → TY dm P N Q all S ds fuel (listed.setIfInBounds i true) ((dst, .slice A' (xs ++ ys).length c') :: fr) w') {z : Value} {s x : Operand}
    (ho : all[i]? = some o := by rfl) (hd : o.dst = some dst := by rfl) (hop : o.op = .call { callee := .builtin .append, args := #[s, x], argTypes := #[t, t] } := by rfl) (hw : ∀ j, Region.wanted o (yl N all j fr) = true := by intro j; rfl)
    (h1 : ∀ j, ev j fr s = v := by intro j; rfl) (h2 : ∀ j, ev j fr x = .slice A ys.length c := by intro j; rfl) (hi : (P.info? e).map (fun i => (i.zero, i.size, i.bytes)) = some (some z, d.sz, bytes) := by kernel_rfl) (hz : z.cells.size = d.sz := by rfl) (hs0 : Nat.blt 0 d.sz = true := by rfl) (hb0 : Nat.blt 0 bytes = true := by rfl) (hN : Nat.blt dst N = true := by rfl) : TE dm P N Q all S ds fuel listed fr w i := by
  obtain ⟨A', c', w', hr, M'⟩ := M.appC (P := P) (t := t) (ty := o.type) (c := c) hf hC ht hi hz (blt_lt hs0) (blt_lt hb0) hl
  exact te_op dst _ (fun j => exec_append hop (h1 j) (h2 j) hr) (hSk A' c' w' M') (h A' c' w' M') ho hd hw hN
end
end Go.Proofs.Ytfknhbgghpbkpaa.Cal
