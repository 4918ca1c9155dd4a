/- A region that draws its order: operations that yield their value in whatever world come first; what is left comes in every order. -/
import Derived.Test.YtfknhbgghpbkpaaMem
import Derived.Test.YtfknhbgghpbkpaaWLast
namespace Go.Proofs.Ytfknhbgghpbkpaa.Cal
open Go.RowKit Go.Proofs.YtfknhbgghpbkpaaW.PrintWords Go.Proofs.YtfknhbgghpbkpaaW.PrintLast
/-- A panic asks nothing of the frame. -/
def POk (Q : Exit → Act → World → Prop) : Prop := ∀ c d v a w, Q (.panic c) (Act.put a d v) w → Q (.panic c) a w
theorem pok_body {P : Program} {fn : Func} {R : Ending → World → Prop} : POk (bodyPost P fn R) := fun _ d _ _ _ h => by
  cases d <;> exact h
theorem cont_panic {P : Program} {Q : Exit → Act → World → Prop} (c : List PanicEntry) (a : Act) (w : World) : ∀ k : List It, cont P Q k (.panic c) a w = Q (.panic c) a w
  | [] => rfl
  | .code _ :: k => cont_panic c a w k
  | .blk _ :: k => cont_panic c a w k
  | .inv _ :: k => cont_panic c a w k
def TY (dm : List Deferred) (P : Program) (N : Nat) (Q : Exit → Act → World → Prop) (all : Array Oper) (S : World → Prop) (ds : List Nat) (fuel : Nat) (listed : Array Bool) (fr : Fr) (w : World) : Prop :=
  ∀ j a, On dm N j fr a → wpAnyLast P .any all Q S ds fuel listed a w
section
variable {dm : List Deferred} {P : Program} {N : Nat} {Q : Exit → Act → World → Prop} {k : List It} {fr fr' : Fr} {wr w : World} {L : List Ent} {all : Array Oper} {S : World → Prop} {ds : List Nat} {fuel : Nat} {listed : Array Bool}
/-- The beginning; what holds behind the region. -/
theorem tc_draw {id : Nat} {σ : Type} (F : σ → Fr) (I : σ → World → Prop) (S : World → Prop) (ds : List Nat) (hm : P.follows .mixedOrders = true)
    (h1 : TY dm P N (Exit.then (fun a w' => ∃ s j, On dm N j (F s) a ∧ I s w') (cont P Q k)) all S ds all.size (Array.replicate all.size false) fr w.drew)
    (h2 : ∀ s w', I s w' → TN dm P N Q k (F s) w') : TC dm P N Q (.region id all true) k fr w := fun j a ha => by
  refine wp_mono (wp_region_last hm (h1 j a ha)) ?_
  intro e a' w' hq
  cases e with
  | normal =>
    obtain ⟨s, j', hj', hI⟩ := hq
    exact h2 s w' hI j' a' hj'
  | _ => exact hq
theorem pok_then {K : Act → World → Prop} (hQ : POk Q) : POk (Exit.then K (cont P Q k)) := fun c d v a w h => by
  have h' : cont P Q k (.panic c) (Act.put a d v) w := h
  show cont P Q k (.panic c) a w
  rw [cont_panic] at h' ⊢
  exact hQ c d v a w h'
theorem ty_sub (hs : Sub fr' fr) (h : TY dm P N Q all S ds fuel listed fr' w) : TY dm P N Q all S ds fuel listed fr w := fun _ a ha => h _ a (hs.on ha)
/-- An operation is taken first. -/
def opa (all : Array Oper) (i : Nat) : Oper := all.toList.getD i default
theorem ty_take (i : Nat) (d : Nat) (v : Value) (hQ : POk Q) (h : TY dm P N Q all S ds fuel (listed.setIfInBounds i true) ((d, v) :: fr) w) (hS : S w)
    (hy : ∀ w', S w' → ∀ j, (execOp (ev j fr) (opa all i)).run P w' = .ok (.value v) w')
    (hi : all[i]? = some (opa all i) := by rfl) (hd : (opa all i).dst = some d := by rfl) (hw : ∀ j, Region.wanted (opa all i) (yl N all j fr) = true := by intro j; rfl)
    (hs : Region.noSelect all = true := by kernel_rfl) (hf : Region.free .any all listed i = true := by kernel_rfl) (hr : (Region.ready .any all listed).contains i = true := by kernel_rfl)
    (hc : Region.closedB .any all listed = true := by kernel_rfl) (hl : Region.lastB .any all listed ds i = true := by kernel_rfl) (hN : Nat.blt d N = true := by rfl) :
    TY dm P N Q all S ds (fuel + 1) listed fr w := fun j a ha => by
  refine wpAnyLast_take (v := v) hi hs hf hr hc hl (fun c a w hq => hQ c _ _ a w hq) (.inl ⟨?_, fun w' hw' => ?_⟩) hS ?_
  · have hyl : yielded all a.tmps = yl N all j fr := funext (yl_eq ha)
    rw [hyl]; exact hw j
  · rw [ha.eval]; exact hy w' hw' j
  · rw [hd]
    exact h j _ (ha.put d v (blt_lt hN))
/-- An operation that is passed by is taken first. -/
theorem ty_pass (i : Nat) {o : Oper} (d : Nat) (hQ : POk Q) (h : TY dm P N Q all S ds fuel (listed.setIfInBounds i true) ((d, undef) :: fr) w) (hS : S w)
    (hi : all[i]? = some o := by rfl) (hd : o.dst = some d := by rfl) (hw : ∀ j, Region.wanted o (yl N all j fr) = false := by intro j; rfl)
    (hs : Region.noSelect all = true := by kernel_rfl) (hf : Region.free .any all listed i = true := by kernel_rfl) (hr : (Region.ready .any all listed).contains i = true := by kernel_rfl)
    (hc : Region.closedB .any all listed = true := by kernel_rfl) (hl : Region.lastB .any all listed ds i = true := by kernel_rfl) (hN : Nat.blt d N = true := by rfl) :
    TY dm P N Q all S ds (fuel + 1) listed fr w := fun j a ha => by
  refine wpAnyLast_take (v := undef) hi hs hf hr hc hl (fun c a w hq => hQ c _ _ a w hq) (.inr ⟨?_, rfl⟩) hS ?_
  · have hyl : yielded all a.tmps = yl N all j fr := funext (yl_eq ha)
    rw [hyl]; exact hw j
  · rw [hd]
    exact h j _ (ha.put d undef (blt_lt hN))
theorem ty_end {σ : Type} {listed : Array Bool} {F : σ → Fr} {I : σ → World → Prop} {Q' : Exit → Act → World → Prop} (s : σ) (hs : Sub (F s) fr) (hI : I s w) (hr : Region.ready .any all listed = [] := by kernel_rfl) :
    TY dm P N (Exit.then (fun a w' => ∃ s j, On dm N j (F s) a ∧ I s w') Q') all S ds fuel listed fr w := fun j a ha =>
  wpAnyLast_done hr (show ∃ s j, On dm N j (F s) a ∧ I s w from ⟨s, _, hs.on ha, hI⟩) fuel
/-- Whatever comes up. -/
def TE (dm : List Deferred) (P : Program) (N : Nat) (Q : Exit → Act → World → Prop) (all : Array Oper) (S : World → Prop) (ds : List Nat) (fuel : Nat) (listed : Array Bool) (fr : Fr) (w : World) (i : Nat) : Prop :=
  ∀ j a, On dm N j fr a → wpOp P all Q i (fun a' w' => (i ∉ ds → S w → S w') ∧ wpAnyLast P .any all Q S ds fuel (listed.setIfInBounds i true) a' w') a w
theorem ty_all {rs : List Nat} (h : ∀ i ∈ rs, TE dm P N Q all S ds fuel listed fr w i) (hr : Region.ready .any all listed = rs := by kernel_rfl) (hne : rs ≠ [] := by decide) : TY dm P N Q all S ds (fuel + 1) listed fr w :=
  fun j a ha => wpAnyLast_all hr hne fun i hi => h i hi j a ha
theorem te_one {i : Nat} (h : TE dm P N Q all S ds fuel listed fr w i) : ∀ i' ∈ [i], TE dm P N Q all S ds fuel listed fr w i' := fun i' hi => by
  rw [List.mem_singleton] at hi; subst hi; exact h
theorem te_cons {i : Nat} {rs : List Nat} (h : TE dm P N Q all S ds fuel listed fr w i) (hr : ∀ i' ∈ rs, TE dm P N Q all S ds fuel listed fr w i') : ∀ i' ∈ i :: rs, TE dm P N Q all S ds fuel listed fr w i' := fun i' hi => by
  rcases List.mem_cons.1 hi with rfl | hi
  · exact h
  · exact hr i' hi
/-- One operation by its run. -/
theorem te_op {i : Nat} {o : Oper} {w' : World} (d : Nat) (v : Value) (hr : ∀ j, (execOp (ev j fr) o).run P w = .ok (.value v) w') (hSk : i ∉ ds → S w → S w')
    (h : TY dm P N Q all S ds fuel (listed.setIfInBounds i true) ((d, v) :: fr) w') (ho : all[i]? = some o := by rfl) (hd : o.dst = some d := by rfl) (hw : ∀ j, Region.wanted o (yl N all j fr) = true := by intro j; rfl) (hN : Nat.blt d N = true := by rfl) :
    TE dm P N Q all S ds fuel listed fr w i := fun j a ha => by
  have hyl : yielded all a.tmps = yl N all j fr := funext (yl_eq ha)
  unfold wpOp
  simp only [ho, hyl, hw j, if_true]
  left
  unfold Oper.wp
  rw [ha.eval, hr j, Oper.upon_value, hd]
  exact ⟨hSk, h j _ (ha.put d v (blt_lt hN))⟩
theorem te_skip {i : Nat} {o : Oper} {w' : World} (hr : ∀ j, (execOp (ev j fr) o).run P w = .ok .skip w') (hSk : i ∉ ds → S w → S w')
    (h : TY dm P N Q all S ds fuel (listed.setIfInBounds i true) fr w') (ho : all[i]? = some o := by rfl) (hd : o.dst = none := by rfl) (hw : ∀ j, Region.wanted o (yl N all j fr) = true := by intro j; rfl) :
    TE dm P N Q all S ds fuel listed fr w i := fun j a ha => by
  have hyl : yielded all a.tmps = yl N all j fr := funext (yl_eq ha)
  unfold wpOp
  simp only [ho, hyl, hw j, if_true]
  left
  unfold Oper.wp
  rw [ha.eval, hr j, Oper.upon_skip, hd]
  exact ⟨hSk, h j _ ha⟩
theorem te_call {i : Nat} {o : Oper} {G : FuncId} {args : Array Value} {R : Ending → World → Prop} (d : Nat) (hc : Calls P G args w R)
    (h : ∀ e w', R e w' → ∃ v, e = .returned v ∧ (i ∉ ds → S w → S w') ∧ TY dm P N Q all S ds fuel (listed.setIfInBounds i true) ((d, v) :: fr) w')
    (ho : all[i]? = some o := by rfl) (hd : o.dst = some d := by rfl) (hw : ∀ j, Region.wanted o (yl N all j fr) = true := by intro j; rfl) (hr : ∀ j, (execOp (ev j fr) o).run P w = .ok (.enter G args) w := by intro j; kernel_rfl) (hN : Nat.blt d N = true := by rfl) :
    TE dm P N Q all S ds fuel listed fr w i := fun j a ha => by
  have hyl : yielded all a.tmps = yl N all j fr := funext (yl_eq ha)
  unfold wpOp
  simp only [ho, hyl, hw j, if_true]
  left
  unfold Oper.wp
  rw [ha.eval, hr j, Oper.upon_enter]
  refine hc.mono fun e w' he => ?_
  obtain ⟨v, rfl, hs, ht⟩ := h e w' he
  show _ ∧ _
  rw [hd]
  exact ⟨hs, ht j _ (ha.put d v (blt_lt hN))⟩
theorem te_call0 {i : Nat} {o : Oper} {G : FuncId} {args : Array Value} {R : Ending → World → Prop} (hc : Calls P G args w R)
    (h : ∀ e w', R e w' → (∃ v, e = .returned v) ∧ (i ∉ ds → S w → S w') ∧ TY dm P N Q all S ds fuel (listed.setIfInBounds i true) fr w')
    (ho : all[i]? = some o := by rfl) (hd : o.dst = none := by rfl) (hw : ∀ j, Region.wanted o (yl N all j fr) = true := by intro j; rfl) (hr : ∀ j, (execOp (ev j fr) o).run P w = .ok (.enter G args) w := by intro j; kernel_rfl) :
    TE dm P N Q all S ds fuel listed fr w i := fun j a ha => by
  have hyl : yielded all a.tmps = yl N all j fr := funext (yl_eq ha)
  unfold wpOp
  simp only [ho, hyl, hw j, if_true]
  left
  unfold Oper.wp
  rw [ha.eval, hr j, Oper.upon_enter]
  refine hc.mono fun e w' he => ?_
  obtain ⟨⟨v, rfl⟩, hs, ht⟩ := h e w' he
  show _ ∧ _
  rw [hd]
  exact ⟨hs, ht j _ ha⟩
theorem te_new {i : Nat} {o : Oper} (M : Mem wr w L) (d : Nat) (cs : Array Value) (t : TypeId) (hSk : ∀ w', Below w.heap.size w w' → i ∉ ds → S w → S w')
    (h : ∀ b w', Mem wr w' (blk b cs t :: L) → TY dm P N Q all S ds fuel (listed.setIfInBounds i true) ((d, .pointer (some ⟨b, 0, none⟩)) :: fr) w')
    (ho : all[i]? = some o := by rfl) (hd : o.dst = some d := by rfl) (hw : ∀ j, Region.wanted o (yl N all j fr) = true := by intro j; rfl)
    (hr : ∀ j, (execOp (ev j fr) o).run P w = .ok (.value (.pointer (some ⟨w.heap.size, 0, none⟩))) { w with heap := w.heap.push (.cells cs t (0, 0)) } := by intro j; kernel_rfl) (hN : Nat.blt d N = true := by rfl) :
    TE dm P N Q all S ds fuel listed fr w i :=
  te_op d _ hr (hSk _ ((Below.refl _ _).alloc (Nat.le_refl _) _)) (h _ _ (M.new cs t)) ho hd hw hN
theorem te_cb {i : Nat} {o : Oper} {G : FuncId} {args : Array Value} {V : Value} (M : Mem wr w L) (d : Nat) (hc : Calls P G args w fun e w' => e = .returned V ∧ Below w.heap.size w w') (hSk : ∀ w', Below w.heap.size w w' → i ∉ ds → S w → S w')
    (h : ∀ w', Below w.heap.size w w' → Mem wr w' L → TY dm P N Q all S ds fuel (listed.setIfInBounds i true) ((d, V) :: fr) w')
    (ho : all[i]? = some o := by rfl) (hd : o.dst = some d := by rfl) (hw : ∀ j, Region.wanted o (yl N all j fr) = true := by intro j; rfl) (hr : ∀ j, (execOp (ev j fr) o).run P w = .ok (.enter G args) w := by intro j; kernel_rfl) (hN : Nat.blt d N = true := by rfl) :
    TE dm P N Q all S ds fuel listed fr w i := te_call d hc (fun e w' he => ⟨V, he.1, hSk w' he.2, h w' he.2 (M.call he.2)⟩) ho hd hw hr hN
theorem te_st {i : Nat} {o : Oper} (M : Mem wr w L) (p : Nat) (cs' : Array Value) {b n : Nat} {cs : Array Value} {t : TypeId} {v : Value} (hSk : ∀ w', Mem wr w' (L.set p (blk b cs' t)) → i ∉ ds → S w → S w')
    (h : ∀ w', Mem wr w' (L.set p (blk b cs' t)) → TY dm P N Q all S ds fuel (listed.setIfInBounds i true) fr w') {ty : TypeId} {x y : Operand}
    (ho : all[i]? = some o := by rfl) (hd : o.dst = none := by rfl) (hop : o.op = .store ty x y := by rfl) (hw : ∀ j, Region.wanted o (yl N all j fr) = true := by intro j; rfl)
    (hx : ∀ j, ev j fr x = .pointer (some ⟨b, n, none⟩) := by intro j; rfl) (hy : ∀ j, ev j fr y = v := by intro j; rfl) (hp : L[p]? = some (blk b cs t) := by rfl) (hn : Nat.blt n cs.size = true := by rfl) (hcs : cs.setIfInBounds n v = cs' := by rfl)
    (hi : (P.info? ty).map (·.size) = some 1 := by kernel_rfl) (h1 : v.oneCell' = true := by rfl) : TE dm P N Q all S ds fuel listed fr w i := by
  have hb := M.blk_at p hp
  subst hcs
  exact te_skip (fun j => exec_store hop (hx j) (hy j) (run_store_one hi h1 ((blk_cell hb n).trans (Array.getElem?_eq_getElem (blt_lt hn))) (blk_frozen hb n))) (hSk _ (M.set p hp n v)) (h _ (M.set p hp n v)) ho hd hw
theorem te_sa {i : Nat} {o : Oper} (M : Mem wr w L) (p : Nat) (cs' : Array Value) {b n : Nat} {cs vs : Array Value} {t : TypeId} (hSk : ∀ w', Mem wr w' (L.set p (blk b cs' t)) → i ∉ ds → S w → S w')
    (h : ∀ w', Mem wr w' (L.set p (blk b cs' t)) → TY dm P N Q all S ds fuel (listed.setIfInBounds i true) fr w') {ty : TypeId} {x y : Operand}
    (ho : all[i]? = some o := by rfl) (hd : o.dst = none := by rfl) (hop : o.op = .store ty x y := by rfl) (hw : ∀ j, Region.wanted o (yl N all j fr) = true := by intro j; rfl)
    (hx : ∀ j, ev j fr x = .pointer (some ⟨b, n, none⟩) := by intro j; rfl) (hy : ∀ j, ev j fr y = .agg vs := by intro j; rfl) (hp : L[p]? = some (blk b cs t) := by rfl) (hn : Nat.ble (n + vs.size) cs.size = true := by rfl) (hcs : splice cs n vs.toList = cs' := by kernel_rfl)
    (hi : (P.info? ty).map (·.size) = some vs.size := by kernel_rfl) (h1 : vs.all (·.oneCell') = true := by kernel_rfl) : TE dm P N Q all S ds fuel listed fr w i := by
  have hb := M.blk_at p hp
  have hn := Nat.le_of_ble_eq_true hn
  have ht : w.there b n vs.size := fun j hj => ⟨by rw [blk_cell hb, Array.getElem?_eq_getElem (by omega)]; rfl, blk_frozen hb _⟩
  subst hcs
  exact te_skip (fun j => exec_store hop (hx j) (hy j) (run_storeAt_mid w b n ty vs ht hi h1)) (hSk _ (M.sets p vs.toList n hp)) (h _ (M.sets p vs.toList n hp)) ho hd hw
/-- Loads that are taken first. -/
theorem rl {o : Oper} {j : Nat → Value} (M : Mem wr w L) (p : Nat) {v : Value} {ty : TypeId} {x : Operand} {b n : Nat} {cs : Array Value} {t : TypeId}
    (hop : o.op = .load ty x := by rfl) (hx : ev j fr x = .pointer (some ⟨b, n, none⟩) := by rfl) (hp : L[p]? = some (blk b cs t) := by rfl) (hv : cs[n]? = some v := by rfl) (hg : (isAgg ty).run P w = .ok false w := by kernel_rfl) :
    (execOp (ev j fr) o).run P w = .ok (.value v) w := exec_load hop hx (run_load_one hg ((blk_cell (M.blk_at p hp) n).trans hv))
theorem rla {o : Oper} {j : Nat → Value} (M : Mem wr w L) (p : Nat) {vs : Array Value} {ty : TypeId} {x : Operand} {b n : Nat} {cs : Array Value} {t : TypeId} {D : TypeDesc} (hu : P.underlying ty = some D) (hD : D.isRow = true := by rfl)
    (hop : o.op = .load ty x := by rfl) (hx : ev j fr x = .pointer (some ⟨b, n, none⟩) := by rfl) (hp : L[p]? = some (blk b cs t) := by rfl) (hv : cs.extract n (n + vs.size) = vs := by rfl) (hi : (P.info? ty).map (·.size) = some vs.size := by kernel_rfl) :
    (execOp (ev j fr) o).run P w = .ok (.value (.agg vs)) w := by
  have hr := World.rangeAt_of_block (M.blk_at p hp) n vs.size
  rw [hv] at hr
  have := run_loadAt_mid (P := P) w b n ty vs.toList D hr hu hD (by simpa using hi)
  rw [Array.toArray_toList] at this
  exact exec_load hop hx this
theorem re {o : Oper} {j : Nat → Value} {a : Addr} {v : Value} (hv : w.cell? a = some v) {ty : TypeId} {x : Operand} (hop : o.op = .load ty x := by rfl) (hx : ev j fr x = .pointer (some a) := by rfl) (hg : (isAgg ty).run P w = .ok false w := by kernel_rfl) :
    (execOp (ev j fr) o).run P w = .ok (.value v) w := exec_load hop hx (run_load_one hg hv)
theorem rea {o : Oper} {j : Nat → Value} {a : Addr} {vs : Array Value} {cs : List Value} (hc : ∀ j u, cs[j]? = some u → w.cell? (a.add j) = some u) {ty : TypeId} {x : Operand} {D : TypeDesc} (hu : P.underlying ty = some D) (hvs : vs.toList = cs := by rfl) (hD : D.isRow = true := by rfl)
    (hop : o.op = .load ty x := by rfl) (hx : ev j fr x = .pointer (some a) := by rfl) (hi : (P.info? ty).map (·.size) = some vs.size := by kernel_rfl) :
    (execOp (ev j fr) o).run P w = .ok (.value (.agg vs)) w := by
  subst hvs
  have := run_loadCs (P := P) hc hu hD (by simpa using hi)
  rw [Array.toArray_toList] at this
  exact exec_load hop hx this
theorem ri {o : Oper} {j : Nat → Value} (q sz : Nat) {ad : Addr} {n c : Nat} (hq : q < n) {T e : TypeId} (hu : P.underlying T = some (.slice e)) {x y : Operand} {kk : IntKind}
    (hop : o.op = .indexAddr T x y := by rfl) (hx : ev j fr x = .slice (some ad) n c := by rfl) (hy : ev j fr y = .int kk (q : Int) := by rfl) (hs : (P.info? e).map (·.size) = some sz := by kernel_rfl) :
    (execOp (ev j fr) o).run P w = .ok (.value (.pointer (some (ad.add (q * sz))))) w := by
  unfold execOp
  simp only [hop, hx, hy, Sem.run_bind, run_indexS hu hs hq, Result.andThen_ok, Sem.run_pure]
theorem rx {o : Oper} {j : Nat → Value} {T : TypeId} {vx vy v : Value} (hr : (Instr.index T vx vy).run P w = .ok v w) {x y : Operand}
    (hop : o.op = .index T x y := by rfl) (hx : ev j fr x = vx := by rfl) (hy : ev j fr y = vy := by rfl) : (execOp (ev j fr) o).run P w = .ok (.value v) w := by
  unfold execOp
  simp only [hop, hx, hy, Sem.run_bind, hr, Result.andThen_ok, Sem.run_pure]
end
end Go.Proofs.Ytfknhbgghpbkpaa.Cal
