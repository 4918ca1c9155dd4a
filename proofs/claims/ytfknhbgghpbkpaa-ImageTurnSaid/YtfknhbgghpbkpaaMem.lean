/- What a function's memory holds, entry by entry: its own blocks, rows that it owns; and the laws of the operations that touch them. -/
import Derived.Test.YtfknhbgghpbkpaaCal
import Derived.Deep.MidRow
namespace Go.Proofs.Ytfknhbgghpbkpaa.Cal
open Go.RowKit Go.Proofs.YtfknhbgghpbkpaaW.PrintWords
/-- One entry: what holds of the blocks that are its own. -/
structure Ent where
  H : (Nat → Prop) → World → Prop
  mono : ∀ {S S' : Nat → Prop} {w : World}, (∀ k, S k → S' k) → H S w → H S' w
  move : ∀ {S : Nat → Prop} {w w' : World}, (∀ k, S k → k < w.heap.size → w'.heap[k]? = w.heap[k]?) → H S w → H S w'
def blk (b : Nat) (cs : Array Value) (t : TypeId) : Ent where
  H S w := S b ∧ w.heap[b]? = some (.cells cs t (0, 0))
  mono h := fun ⟨h1, h2⟩ => ⟨h b h1, h2⟩
  move h := fun ⟨h1, h2⟩ => ⟨h1, (h b h1 (blk_lt h2)).trans h2⟩
def own {α : Type} (d : Kd α) (e : Nat) (base : Nat) (v : Value) (xs : List α) : Ent where
  H S w := d.R e w base S v xs
  mono h := fun k => Kd.R_mono k h
  move h := fun k => Kd.R_step k h
def owns {α : Type} (d : Kd α) (base : Nat) (x : α) (cs : List Value) : Ent where
  H S w := d.M w base S x cs
  mono h := fun k => d.M_mono h k
  move h := fun k => Kd.M_step k h
/-- Nothing. -/
def emp : Ent where
  H _ _ := True
  mono _ := id
  move _ := id
def Sep (w : World) : (Nat → Prop) → List Ent → Prop
  | _, [] => True
  | T, e :: L => ∃ S : Nat → Prop, (∀ k, S k → T k) ∧ e.H S w ∧ Sep w (fun k => T k ∧ ¬ S k) L
theorem Sep.mono {w : World} : ∀ {L : List Ent} {T T' : Nat → Prop}, (∀ k, T k → T' k) → Sep w T L → Sep w T' L
  | [], _, _, _, _ => trivial
  | _ :: _, _, _, h, ⟨S, hS, he, hr⟩ => ⟨S, fun k hk => h k (hS k hk), he, Sep.mono (fun k hk => ⟨h k hk.1, hk.2⟩) hr⟩
theorem Sep.move {w w' : World} : ∀ {L : List Ent} {T : Nat → Prop}, (∀ k, T k → k < w.heap.size → w'.heap[k]? = w.heap[k]?) → Sep w T L → Sep w' T L
  | [], _, _, _ => trivial
  | e :: _, _, h, ⟨S, hS, he, hr⟩ => ⟨S, hS, e.move (fun k hk => h k (hS k hk)) he, Sep.move (fun k hk => h k hk.1) hr⟩
/-- The memory of a call: wr is the world whose blocks stand, L what is held beside. -/
structure Mem (wr w : World) (L : List Ent) : Prop where
  below : Below wr.heap.size wr w
  sep : Sep w (fun k => wr.heap.size ≤ k ∧ k < w.heap.size) L
theorem Mem.refl (w : World) : Mem w w [] := ⟨Below.refl _ _, trivial⟩
theorem Mem.size {wr w : World} {L : List Ent} (h : Mem wr w L) : wr.heap.size ≤ w.heap.size := h.below.size
theorem Mem.nil {wr w : World} {L : List Ent} (h : Mem wr w L) : Mem wr w [] := ⟨h.below, trivial⟩
/-- A call that turns nothing that was there. -/
theorem Mem.call {wr w w' : World} {L : List Ent} (h : Mem wr w L) (hb : Below w.heap.size w w') : Mem wr w' L :=
  ⟨below_then h.below h.size hb, Sep.mono (fun k hk => ⟨hk.1, Nat.lt_of_lt_of_le hk.2 hb.size⟩) (Sep.move (fun k hk _ => hb.block k hk.2) h.sep)⟩
theorem Mem.tail {wr w : World} {L : List Ent} {e : Ent} (h : Mem wr w (e :: L)) : Mem wr w L := by
  obtain ⟨hb, S, hS, he, hr⟩ := h
  exact ⟨hb, Sep.mono (fun _ hk => hk.1) hr⟩
theorem Sep.get {w : World} : ∀ {L : List Ent} {T : Nat → Prop} {p : Nat} {e : Ent}, Sep w T L → L[p]? = some e → ∃ S : Nat → Prop, (∀ k, S k → T k) ∧ e.H S w
  | [], _, _, _, _, h => by simp at h
  | _ :: _, _, 0, _, ⟨S, hS, he, _⟩, h => by
    simp only [List.getElem?_cons_zero, Option.some.injEq] at h
    subst h
    exact ⟨S, hS, he⟩
  | _ :: _, _, p + 1, _, ⟨_, _, _, hr⟩, h => by
    simp only [List.getElem?_cons_succ] at h
    obtain ⟨S, hS, he⟩ := Sep.get hr h
    exact ⟨S, fun k hk => (hS k hk).1, he⟩
theorem Mem.get {wr w : World} {L : List Ent} (h : Mem wr w L) (p : Nat) {e : Ent} (hp : L[p]? = some e) : ∃ S : Nat → Prop, (∀ k, S k → wr.heap.size ≤ k ∧ k < w.heap.size) ∧ e.H S w := h.sep.get hp
/-- One entry turns, with what lies in it. -/
theorem Sep.upd {w w' : World} {e e' : Ent} : ∀ {L : List Ent} {T : Nat → Prop} {p : Nat}, Sep w T L → (∀ k, T k → k < w.heap.size) → L[p]? = some e →
    (∀ S, (∀ k, S k → T k) → e.H S w → ∃ S' : Nat → Prop, (∀ k, S' k → S k ∨ (w.heap.size ≤ k ∧ k < w'.heap.size)) ∧ e'.H S' w' ∧ (∀ k, k < w.heap.size → ¬ S k → w'.heap[k]? = w.heap[k]?)) →
    Sep w' (fun k => T k ∨ (w.heap.size ≤ k ∧ k < w'.heap.size)) (L.set p e')
  | [], _, _, _, _, h, _ => by simp at h
  | e0 :: L, T, 0, ⟨S, hS, he, hr⟩, hT, h, hu => by
    simp only [List.getElem?_cons_zero, Option.some.injEq] at h
    subst h
    obtain ⟨S', h1, h2, h3⟩ := hu S hS he
    refine ⟨S', fun k hk => (h1 k hk).imp (hS k) id, h2, ?_⟩
    refine Sep.mono (fun k hk => ⟨.inl hk.1, fun hs => ?_⟩) (Sep.move (fun k hk hlt => h3 k hlt hk.2) hr)
    rcases h1 k hs with h | h
    · exact hk.2 h
    · exact absurd (hT k hk.1) (Nat.not_lt.2 h.1)
  | e0 :: L, T, p + 1, ⟨S, hS, he, hr⟩, hT, h, hu => by
    simp only [List.getElem?_cons_succ] at h
    have hnew : ∀ k, S k → w'.heap[k]? = w.heap[k]? := by
      intro k hk
      obtain ⟨S1, hS1, he1⟩ := Sep.get hr h
      obtain ⟨S', _, _, h3⟩ := hu S1 (fun k hk => (hS1 k hk).1) he1
      exact h3 k (hT k (hS k hk)) (fun hs => (hS1 k hs).2 hk)
    refine ⟨S, fun k hk => .inl (hS k hk), e0.move (fun k hk _ => hnew k hk) he, ?_⟩
    refine Sep.mono (fun k hk => ?_) (Sep.upd (p := p) hr (fun k hk => hT k hk.1) h (fun S1 hS1 he1 => hu S1 (fun k hk => (hS1 k hk).1) he1))
    rcases hk with hk | hk
    · exact ⟨.inl hk.1, hk.2⟩
    · exact ⟨.inr hk, fun hs => absurd (hT k (hS k hs)) (Nat.not_lt.2 hk.1)⟩
theorem Mem.upd {wr w w' : World} {L : List Ent} (h : Mem wr w L) (p : Nat) {e e' : Ent} (hp : L[p]? = some e) (hs : w.heap.size ≤ w'.heap.size) (ho : w'.os = w.os) (ht : w'.tape = w.tape) (hou : w'.output = w.output)
    (hu : ∀ S, (∀ k, S k → wr.heap.size ≤ k ∧ k < w.heap.size) → e.H S w → ∃ S' : Nat → Prop, (∀ k, S' k → S k ∨ (w.heap.size ≤ k ∧ k < w'.heap.size)) ∧ e'.H S' w' ∧ (∀ k, k < w.heap.size → ¬ S k → w'.heap[k]? = w.heap[k]?)) :
    Mem wr w' (L.set p e') := by
  obtain ⟨S, hS, he⟩ := h.get p hp
  obtain ⟨S', _, _, h3⟩ := hu S hS he
  refine ⟨⟨ho.trans h.below.os, ht.trans h.below.tape, hou.trans h.below.output, Nat.le_trans h.size hs, fun i hi => ?_⟩, ?_⟩
  · rw [h3 i (Nat.lt_of_lt_of_le hi h.size) (fun hs => absurd (hS i hs).1 (Nat.not_le.2 hi))]
    exact h.below.block i hi
  · refine Sep.mono (fun k hk => ?_) (Sep.upd h.sep (fun k hk => hk.2) hp hu)
    rcases hk with hk | hk
    · exact ⟨hk.1, Nat.lt_of_lt_of_le hk.2 hs⟩
    · exact ⟨Nat.le_trans h.size hk.1, hk.2⟩
/-- A new entry, of blocks that are new. -/
theorem Mem.add {wr w w' : World} {L : List Ent} (h : Mem wr w L) {e : Ent} (hb : Below w.heap.size w w') (S : Nat → Prop) (hS : ∀ k, S k → w.heap.size ≤ k ∧ k < w'.heap.size) (he : e.H S w') : Mem wr w' (e :: L) :=
  ⟨(h.call hb).below, S, fun k hk => ⟨Nat.le_trans h.size (hS k hk).1, (hS k hk).2⟩, he,
    Sep.mono (fun k hk => ⟨⟨hk.1, Nat.lt_of_lt_of_le hk.2 hb.size⟩, fun hs => absurd hk.2 (Nat.not_lt.2 (hS k hs).1)⟩) (Sep.move (fun k hk _ => hb.block k hk.2) h.sep)⟩
theorem Sep.front {w : World} {e : Ent} : ∀ {L : List Ent} {T : Nat → Prop} {p : Nat}, Sep w T L → L[p]? = some e → Sep w T (e :: L.eraseIdx p)
  | [], _, _, _, h => by simp at h
  | e0 :: L, T, 0, hs, h => by
    simp only [List.getElem?_cons_zero, Option.some.injEq] at h
    subst h
    exact hs
  | e0 :: L, T, p + 1, ⟨S, hS, he, hr⟩, h => by
    simp only [List.getElem?_cons_succ] at h
    obtain ⟨S1, hS1, he1, hr1⟩ := Sep.front hr h
    exact ⟨S1, fun k hk => (hS1 k hk).1, he1, S, fun k hk => ⟨hS k hk, fun hs => (hS1 k hs).2 hk⟩, he, Sep.mono (fun k hk => ⟨⟨hk.1.1, hk.2⟩, hk.1.2⟩) hr1⟩
/-- An entry is taken to the front. -/
theorem Mem.front {wr w : World} {L : List Ent} (h : Mem wr w L) (p : Nat) {e : Ent} (hp : L[p]? = some e) : Mem wr w (e :: L.eraseIdx p) := ⟨h.below, h.sep.front hp⟩
/-- The first entry is another one, of the same blocks and new ones. -/
theorem Mem.imp {wr w : World} {L : List Ent} {e e' : Ent} (h : Mem wr w (e :: L)) (hi : ∀ S, (∀ k, S k → wr.heap.size ≤ k ∧ k < w.heap.size) → e.H S w → e'.H S w) : Mem wr w (e' :: L) := by
  obtain ⟨hb, S, hS, he, hr⟩ := h
  exact ⟨hb, S, hS, hi S hS he, hr⟩
/-- An elder world stands for the reader's. -/
theorem Mem.lower {wr wr' w : World} {L : List Ent} (h : Mem wr w L) (hb : Below wr'.heap.size wr' wr) : Mem wr' w L :=
  ⟨below_then hb hb.size h.below, Sep.mono (fun k hk => ⟨Nat.le_trans hb.size hk.1, hk.2⟩) h.sep⟩

/-! ### blocks of the call's own -/
theorem Mem.blk_at {wr w : World} {L : List Ent} (h : Mem wr w L) (p : Nat) {b : Nat} {cs : Array Value} {t : TypeId} (hp : L[p]? = some (blk b cs t)) : w.heap[b]? = some (.cells cs t (0, 0)) := by
  obtain ⟨S, _, he⟩ := h.get p hp
  exact he.2
theorem Mem.new {wr w : World} {L : List Ent} (h : Mem wr w L) (cs : Array Value) (t : TypeId) : Mem wr { w with heap := w.heap.push (.cells cs t (0, 0)) } (blk w.heap.size cs t :: L) := by
  refine h.add (w' := w.alloc (.cells cs t (0, 0))) ((Below.refl _ _).alloc (Nat.le_refl _) _) (fun k => k = w.heap.size) (fun _ hk => by subst hk; simp) ⟨rfl, heap_alloc_new _ _⟩
theorem Mem.draw {wr w : World} {L : List Ent} (h : Mem wr w L) : Mem wr w.drew L := ⟨h.below.drew, h.sep.move (w := w) (w' := w.drew) (fun _ _ _ => rfl)⟩
section
variable {dm : List Deferred} {P : Program} {N : Nat} {Q : Exit → Act → World → Prop} {k : List It} {fr fr' : Fr} {wr w : World} {L : List Ent} {all : Array Oper} {i : Nat} {o : Oper}
/-- A new block: a variable, a boxed value. -/
theorem to_new (M : Mem wr w L) (ho : all.toList[i]? = some o) (d : Nat) (hd : o.dst = some d) (cs : Array Value) (t : TypeId) (hw : ∀ j, Region.wanted o (yl N all j fr) = true)
    (hr : ∀ j, (execOp (ev j fr) o).run P w = .ok (.value (.pointer (some ⟨w.heap.size, 0, none⟩))) { w with heap := w.heap.push (.cells cs t (0, 0)) }) (hN : Nat.blt d N = true)
    (h : ∀ b w', Mem wr w' (blk b cs t :: L) → TO dm P N Q all k ((d, .pointer (some ⟨b, 0, none⟩)) :: fr) w' (i + 1)) : TO dm P N Q all k fr w i :=
  to_op ho hw hr (by unfold put1; rw [hd]; simp only [hN, cond_true]) (h _ _ (M.new cs t))
theorem run_load_one {w : World} {ty : TypeId} {a : Addr} {v : Value} (hg : (isAgg ty).run P w = .ok false w) (hc : w.cell? a = some v) : (Instr.loadAt ty (.pointer (some a))).run P w = .ok v w := by
  simp [Instr.loadAt, Instr.sureAddr, loadVar, Sem.run_bind, hg, hc]
theorem exec_load {ρ : Operand → Value} {ty : TypeId} {x : Operand} {a : Addr} {v : Value} (ho : o.op = .load ty x) (hx : ρ x = .pointer (some a)) (hr : (Instr.loadAt ty (.pointer (some a))).run P w = .ok v w) : (execOp ρ o).run P w = .ok (.value v) w := by
  unfold execOp
  simp only [ho, hx, Sem.run_bind, hr, Result.andThen_ok, Sem.run_pure]
theorem exec_store {ρ : Operand → Value} {ty : TypeId} {x y : Operand} {a : Addr} {v : Value} {w' : World} (ho : o.op = .store ty x y) (hx : ρ x = .pointer (some a)) (hy : ρ y = v) (hr : (Instr.storeAt ty (.pointer (some a)) v).run P w = .ok () w') : (execOp ρ o).run P w = .ok .skip w' := by
  unfold execOp
  simp only [ho, hx, hy, Sem.run_bind, hr, Result.andThen_ok, Sem.run_pure]
/-- A cell of a block of its own is read. -/
theorem to_load (M : Mem wr w L) (p : Nat) (ho : all.toList[i]? = some o) (d : Nat) (hd : o.dst = some d) {ty : TypeId} {x : Operand} (hop : o.op = .load ty x) (hw : ∀ j, Region.wanted o (yl N all j fr) = true)
    {b n : Nat} (hx : ∀ j, ev j fr x = .pointer (some ⟨b, n, none⟩)) {cs : Array Value} {t : TypeId} (hp : L[p]? = some (blk b cs t)) (v : Value) (hv : cs[n]? = some v) (hg : (isAgg ty).run P w = .ok false w) (hN : Nat.blt d N = true)
    (h : TO dm P N Q all k ((d, v) :: fr) w (i + 1)) : TO dm P N Q all k fr w i :=
  to_op ho hw (fun j => exec_load hop (hx j) (run_load_one hg ((blk_cell (M.blk_at p hp) n).trans hv))) (by unfold put1; rw [hd]; simp only [hN, cond_true]) h
/-- A struct or an array in a block of its own is read. -/
theorem to_loadA (M : Mem wr w L) (p : Nat) (ho : all.toList[i]? = some o) (d : Nat) (hd : o.dst = some d) {ty : TypeId} {x : Operand} (hop : o.op = .load ty x) (hw : ∀ j, Region.wanted o (yl N all j fr) = true)
    {b n : Nat} (hx : ∀ j, ev j fr x = .pointer (some ⟨b, n, none⟩)) {cs : Array Value} {t : TypeId} (hp : L[p]? = some (blk b cs t)) (vs : Array Value) (hv : cs.extract n (n + vs.size) = vs) {D : TypeDesc} (hu : P.underlying ty = some D) (hD : D.isRow = true)
    (hi : (P.info? ty).map (·.size) = some vs.size) (hN : Nat.blt d N = true)
    (h : TO dm P N Q all k ((d, .agg vs) :: fr) w (i + 1)) : TO dm P N Q all k fr w i := by
  have hr := World.rangeAt_of_block (M.blk_at p hp) n vs.size
  rw [hv] at hr
  have := run_loadAt_mid (P := P) w b n ty vs.toList D hr hu hD (by simpa using hi)
  rw [Array.toArray_toList] at this
  exact to_op ho hw (fun j => exec_load hop (hx j) this) (by unfold put1; rw [hd]; simp only [hN, cond_true]) h
theorem run_store_one {w : World} {ty : TypeId} {a : Addr} {v u : Value} (hi : (P.info? ty).map (·.size) = some 1) (h1 : v.oneCell' = true) (hc : w.cell? a = some u) (hf : w.frozen? a = false) : (Instr.storeAt ty (.pointer (some a)) v).run P w = .ok () (w.setCell a v) := by
  have hcs : v.cells = #[v] := by cases v <;> first | rfl | cases h1
  have ha : a.add 0 = a := by simp [Addr.add]
  cases hq : P.info? ty with
  | none => simp [hq] at hi
  | some inf =>
    have hs : inf.size = 1 := by simpa [hq] using hi
    simp [Instr.storeAt, Instr.sureAddr, storeVar, Sem.run_bind, sizeOf, typeInfo, hq, hs, hcs, storeCells, ha, run_store P w a v _ h1, hc, hf]
theorem Mem.set {wr w : World} {L : List Ent} (h : Mem wr w L) (p : Nat) {b : Nat} {cs : Array Value} {t : TypeId} (hp : L[p]? = some (blk b cs t)) (n : Nat) (v : Value) : Mem wr (w.setCell ⟨b, n, none⟩ v) (L.set p (blk b (cs.setIfInBounds n v) t)) :=
  h.upd p hp (by simp) rfl rfl rfl fun S hS he => ⟨S, fun k hk => .inl hk, ⟨he.1, blk_set he.2 n v⟩, fun k _ hk => Below.heap_setCell w _ v k (fun e => hk (by subst e; exact he.1))⟩
/-- A cell of a block of its own is written. -/
theorem to_store (M : Mem wr w L) (p : Nat) (ho : all.toList[i]? = some o) (hd : o.dst = none) {ty : TypeId} {x y : Operand} (hop : o.op = .store ty x y) (hw : ∀ j, Region.wanted o (yl N all j fr) = true)
    {b n : Nat} (hx : ∀ j, ev j fr x = .pointer (some ⟨b, n, none⟩)) {v : Value} (hy : ∀ j, ev j fr y = v) {cs : Array Value} {t : TypeId} (hp : L[p]? = some (blk b cs t)) (hn : n < cs.size) (cs' : Array Value) (hcs : cs.setIfInBounds n v = cs')
    (hi : (P.info? ty).map (·.size) = some 1) (h1 : v.oneCell' = true)
    (h : ∀ w', Mem wr w' (L.set p (blk b cs' t)) → TO dm P N Q all k fr w' (i + 1)) : TO dm P N Q all k fr w i := by
  have hb := M.blk_at p hp
  refine to_op_skip ho hw (fun j => exec_store hop (hx j) (hy j) (run_store_one hi h1 ((blk_cell hb n).trans (Array.getElem?_eq_getElem hn)) (blk_frozen hb n))) hd (h _ ?_)
  subst hcs
  exact M.set p hp n v
def splice : Array Value → Nat → List Value → Array Value
  | cs, _, [] => cs
  | cs, n, v :: vs => splice (cs.setIfInBounds n v) (n + 1) vs
theorem Mem.sets {wr : World} {b : Nat} {t : TypeId} (p : Nat) : ∀ (vs : List Value) (n : Nat) {w : World} {L : List Ent} {cs : Array Value}, Mem wr w L → L[p]? = some (blk b cs t) → Mem wr (w.setCells b n vs) (L.set p (blk b (splice cs n vs) t))
  | [], n, w, L, cs, h, hp => by
    have : L.set p (blk b cs t) = L := by
      apply List.ext_getElem?
      intro q
      rw [List.getElem?_set]
      split
      · rename_i e; subst e
        split
        · exact hp.symm
        · rename_i hlt; exact absurd (List.getElem?_eq_some_iff.1 hp).1 hlt
      · rfl
    show Mem wr w (L.set p (blk b cs t))
    rw [this]; exact h
  | v :: vs, n, w, L, cs, h, hp => by
    have h1 := h.set p hp n v
    have hlt := (List.getElem?_eq_some_iff.1 hp).1
    have hp1 : (L.set p (blk b (cs.setIfInBounds n v) t))[p]? = some (blk b (cs.setIfInBounds n v) t) := by rw [List.getElem?_set]; simp [hlt]
    have h2 := Mem.sets p vs (n + 1) h1 hp1
    rw [List.set_set] at h2
    exact h2
/-- A struct or an array is written into a block of its own. -/
theorem to_storeA (M : Mem wr w L) (p : Nat) (ho : all.toList[i]? = some o) (hd : o.dst = none) {ty : TypeId} {x y : Operand} (hop : o.op = .store ty x y) (hw : ∀ j, Region.wanted o (yl N all j fr) = true)
    {b n : Nat} (hx : ∀ j, ev j fr x = .pointer (some ⟨b, n, none⟩)) {vs : Array Value} (hy : ∀ j, ev j fr y = .agg vs) {cs : Array Value} {t : TypeId} (hp : L[p]? = some (blk b cs t)) (hn : n + vs.size ≤ cs.size) (cs' : Array Value) (hcs : splice cs n vs.toList = cs')
    (hi : (P.info? ty).map (·.size) = some vs.size) (h1 : vs.all (·.oneCell') = true)
    (h : ∀ w', Mem wr w' (L.set p (blk b cs' t)) → TO dm P N Q all k fr w' (i + 1)) : TO dm P N Q all k fr w i := by
  have hb := M.blk_at p hp
  have ht : w.there b n vs.size := fun j hj => ⟨by rw [blk_cell hb, Array.getElem?_eq_getElem (by omega)]; rfl, blk_frozen hb _⟩
  refine to_op_skip ho hw (fun j => exec_store hop (hx j) (hy j) (run_storeAt_mid w b n ty vs ht hi h1)) hd (h _ ?_)
  subst hcs
  exact M.sets p vs.toList n hp
/-! ### rows that came in -/
theorem run_indexS {w : World} {T e : TypeId} {kk : IntKind} {ad : Addr} {n c x sz : Nat} (hu : P.underlying T = some (.slice e)) (hs : (P.info? e).map (·.size) = some sz) (hx : x < n) :
    (Instr.indexAt T (.slice (some ad) n c) (.int kk (x : Int))).run P w = .ok (.pointer (some (ad.add (x * sz)))) w := by
  cases hq : P.info? e with
  | none => simp [hq] at hs
  | some inf =>
    have h1 : inf.size = sz := by simpa [hq] using hs
    simp [Instr.indexAt, asIntOf, Sem.run_bind, run_underlying hu w, sizeOf, typeInfo, hq, h1]
    intro h; omega
/-- The address of an element of a slice. -/
theorem to_index (ho : all.toList[i]? = some o) (d : Nat) (hd : o.dst = some d) {T : TypeId} {x y : Operand} (hop : o.op = .indexAddr T x y) (hw : ∀ j, Region.wanted o (yl N all j fr) = true)
    {ad : Addr} {n c : Nat} (hx : ∀ j, ev j fr x = .slice (some ad) n c) {kk : IntKind} (q : Nat) (hy : ∀ j, ev j fr y = .int kk (q : Int)) {e : TypeId} (hu : P.underlying T = some (.slice e)) (sz : Nat) (hs : (P.info? e).map (·.size) = some sz) (hq : q < n) (hN : Nat.blt d N = true)
    (h : TO dm P N Q all k ((d, .pointer (some (ad.add (q * sz)))) :: fr) w (i + 1)) : TO dm P N Q all k fr w i := by
  refine to_op ho hw (v := .pointer (some (ad.add (q * sz)))) (fun j => ?_) (by unfold put1; rw [hd]; simp only [hN, cond_true]) h
  unfold execOp
  simp only [hop, hx j, hy j, Sem.run_bind, run_indexS hu hs hq, Result.andThen_ok, Sem.run_pure]
/-- Field f (cells f..f+m-1) of element q of a row that is read: one cell. -/
theorem C_cell {α : Type} {dk : Kd α} {ad : Addr} {n : Nat} {xs : List α} (hC : dk.C w (some ad) n xs) (z : α) (q : Nat) (hq : q < n) : ∃ cs, dk.K w (xs.getD q z) cs ∧ ∀ j u, cs[j]? = some u → w.cell? ((ad.add (q * dk.sz)).add j) = some u := by
  obtain ⟨ad', c, e, hl, hK, hc⟩ := Kd.C_get hC z (q : Int) (by omega) (by omega)
  obtain rfl : ad = ad' := Option.some.inj e
  exact ⟨c, hK, fun j u hj => by rw [add_add]; exact hc j u hj⟩
theorem to_loadE (ho : all.toList[i]? = some o) (d : Nat) (hd : o.dst = some d) {ty : TypeId} {x : Operand} (hop : o.op = .load ty x) (hw : ∀ j, Region.wanted o (yl N all j fr) = true)
    {a : Addr} (hx : ∀ j, ev j fr x = .pointer (some a)) {v : Value} (hv : w.cell? a = some v) (hg : (isAgg ty).run P w = .ok false w) (hN : Nat.blt d N = true)
    (h : TO dm P N Q all k ((d, v) :: fr) w (i + 1)) : TO dm P N Q all k fr w i :=
  to_op ho hw (fun j => exec_load hop (hx j) (run_load_one hg hv)) (by unfold put1; rw [hd]; simp only [hN, cond_true]) h
theorem run_loadCs {w : World} {ty : TypeId} {a : Addr} {cs : List Value} (hc : ∀ j u, cs[j]? = some u → w.cell? (a.add j) = some u) {D : TypeDesc} (hu : P.underlying ty = some D) (hD : D.isRow = true) (hi : (P.info? ty).map (·.size) = some cs.length) :
    (Instr.loadAt ty (.pointer (some a))).run P w = .ok (.agg cs.toArray) w := by
  have hl : (loadCells a cs.length).run P w = .ok cs.toArray w := run_loadCells_list (P := P) w a cs hc
  cases hq : P.info? ty with
  | none => simp [hq] at hi
  | some inf =>
    have hs : inf.size = cs.length := by simpa [hq] using hi
    have hagg : (isAgg ty).run P w = .ok true w := by
      unfold isAgg
      rw [Sem.run_bind, run_underlying hu w]
      cases D <;> simp_all [TypeDesc.isRow]
    simp [Instr.loadAt, Instr.sureAddr, loadVar, Sem.run_bind, hagg, sizeOf, typeInfo, hq, hs, hl]
theorem to_loadEA (ho : all.toList[i]? = some o) (d : Nat) (hd : o.dst = some d) {ty : TypeId} {x : Operand} (hop : o.op = .load ty x) (hw : ∀ j, Region.wanted o (yl N all j fr) = true)
    {a : Addr} (hx : ∀ j, ev j fr x = .pointer (some a)) {cs : List Value} (hc : ∀ j u, cs[j]? = some u → w.cell? (a.add j) = some u) {D : TypeDesc} (hu : P.underlying ty = some D) (hD : D.isRow = true) (hi : (P.info? ty).map (·.size) = some cs.length) (hN : Nat.blt d N = true)
    (h : TO dm P N Q all k ((d, .agg cs.toArray) :: fr) w (i + 1)) : TO dm P N Q all k fr w i :=
  to_op ho hw (fun j => exec_load hop (hx j) (run_loadCs hc hu hD hi)) (by unfold put1; rw [hd]; simp only [hN, cond_true]) h

/-! ### returns -/
variable {fn : Func} {R : Ending → World → Prop}
theorem tr_tmp {t : Nat} (hres : fn.results = #[.tmp t]) {v : Value} (hv : look fr t = some v) (hR : R (.returned v) w) : TR [] N (bodyPost P fn R) fr w := fun j a ha =>
  ⟨ha.defers, v, by rw [results_tmp hres]; have := ha.get t; unfold gv at this; rw [hv] at this; rw [this]; rfl, hR⟩
theorem tr_tmp2 {t u : Nat} (hres : fn.results = #[.tmp t, .tmp u]) {v v2 : Value} (hv : look fr t = some v) (hv2 : look fr u = some v2) (hR : R (.returned (.tuple #[v, v2])) w) : TR [] N (bodyPost P fn R) fr w := fun j a ha =>
  ⟨ha.defers, _, by
    rw [results_tmp2 hres]
    have h1 := ha.get t
    have h2 := ha.get u
    unfold gv at h1 h2
    rw [hv] at h1; rw [hv2] at h2; rw [h1, h2]; rfl, hR⟩
/-- Any results: each by its run. -/
theorem tr_any {v : Value} (hr : ∀ tmps : Array Value, (∃ j, ∀ t, tmps.getD t undef = gv j fr t) → (results fn tmps).run P w = .ok v w) (hR : R (.returned v) w) : TR [] N (bodyPost P fn R) fr w := fun j _ ha =>
  ⟨ha.defers, v, hr _ ⟨j, ha.get⟩, hR⟩
theorem run_cell_one {w : World} {ty : TypeId} {a : Addr} {v : Value} (hg : (isAgg ty).run P w = .ok false w) (hc : w.cell? a = some v) : (loadVar ty a).run P w = .ok v w := by simp [loadVar, Sem.run_bind, hg, hc]
theorem run_cell_row {w : World} {b : Nat} {cs : Array Value} {t ty : TypeId} (hb : w.heap[b]? = some (.cells cs t (0, 0))) {D : TypeDesc} (hu : P.underlying ty = some D) (hD : D.isRow = true) (hi : (P.info? ty).map (·.size) = some cs.size) :
    (loadVar ty ⟨b, 0, none⟩).run P w = .ok (.agg cs) w := run_loadVar_row w b t ty cs (0, 0) D hb hu (by cases D <;> simp_all [TypeDesc.isRow]) hi
theorem tr_cell (M : Mem wr w L) (p : Nat) {t : Nat} {ty T : TypeId} (hres : fn.results = #[.cell t ty]) {b : Nat} {cs : Array Value} (hv : look fr t = some (.pointer (some ⟨b, 0, none⟩))) (hp : L[p]? = some (blk b cs T)) {D : TypeDesc} (hu : P.underlying ty = some D) (hD : D.isRow = true) (hi : (P.info? ty).map (·.size) = some cs.size)
    (hR : R (.returned (.agg cs)) w) : TR [] N (bodyPost P fn R) fr w := tr_any (fun tmps ⟨j, hj⟩ => by
  have h1 := hj t
  unfold gv at h1
  rw [hv] at h1
  have h2 := run_cell_row (P := P) (M.blk_at p hp) hu hD hi
  have h3 : tmps[t]?.getD undef = .pointer (some ⟨b, 0, none⟩) := by simpa using h1
  simp [results, hres, h3, asAddr, h2]) hR
theorem tr_cell_tmp (M : Mem wr w L) (p : Nat) {t u : Nat} {ty T : TypeId} (hres : fn.results = #[.cell t ty, .tmp u]) {b : Nat} {cs : Array Value} (hv : look fr t = some (.pointer (some ⟨b, 0, none⟩))) {v2 : Value} (hv2 : look fr u = some v2) (hp : L[p]? = some (blk b cs T)) {D : TypeDesc} (hu : P.underlying ty = some D) (hD : D.isRow = true) (hi : (P.info? ty).map (·.size) = some cs.size)
    (hR : R (.returned (.tuple #[.agg cs, v2])) w) : TR [] N (bodyPost P fn R) fr w := tr_any (fun tmps ⟨j, hj⟩ => by
  have h1 := hj t
  have h4 := hj u
  unfold gv at h1 h4
  rw [hv] at h1
  rw [hv2] at h4
  have h2 := run_cell_row (P := P) (M.blk_at p hp) hu hD hi
  have h3 : tmps[t]?.getD undef = .pointer (some ⟨b, 0, none⟩) := by simpa using h1
  have h5 : tmps[u]?.getD undef = v2 := by simpa using h4
  simp [results, hres, h3, h5, asAddr, h2]) hR
theorem tr_cell_tmp2 (M : Mem wr w L) (p : Nat) {t u u' : Nat} {ty T : TypeId} (hres : fn.results = #[.cell t ty, .tmp u, .tmp u']) {b : Nat} {cs : Array Value} (hv : look fr t = some (.pointer (some ⟨b, 0, none⟩))) {v2 v3 : Value} (hv2 : look fr u = some v2) (hv3 : look fr u' = some v3) (hp : L[p]? = some (blk b cs T)) {D : TypeDesc} (hu : P.underlying ty = some D) (hD : D.isRow = true) (hi : (P.info? ty).map (·.size) = some cs.size)
    (hR : R (.returned (.tuple #[.agg cs, v2, v3])) w) : TR [] N (bodyPost P fn R) fr w := tr_any (fun tmps ⟨j, hj⟩ => by
  have h1 := hj t
  have h4 := hj u
  have h6 := hj u'
  unfold gv at h1 h4 h6
  rw [hv] at h1
  rw [hv2] at h4
  rw [hv3] at h6
  have h2 := run_cell_row (P := P) (M.blk_at p hp) hu hD hi
  have h3 : tmps[t]?.getD undef = .pointer (some ⟨b, 0, none⟩) := by simpa using h1
  have h5 : tmps[u]?.getD undef = v2 := by simpa using h4
  have h7 : tmps[u']?.getD undef = v3 := by simpa using h6
  simp [results, hres, h3, h5, h7, asAddr, h2]) hR
theorem tr_tmp3 {t u u' : Nat} (hres : fn.results = #[.tmp t, .tmp u, .tmp u']) {v v2 v3 : Value} (hv : look fr t = some v) (hv2 : look fr u = some v2) (hv3 : look fr u' = some v3) (hR : R (.returned (.tuple #[v, v2, v3])) w) : TR [] N (bodyPost P fn R) fr w := tr_any (fun tmps ⟨j, hj⟩ => by
  have h1 := hj t
  have h4 := hj u
  have h6 := hj u'
  unfold gv at h1 h4 h6
  rw [hv] at h1
  rw [hv2] at h4
  rw [hv3] at h6
  have h3 : tmps[t]?.getD undef = v := by simpa using h1
  have h5 : tmps[u]?.getD undef = v2 := by simpa using h4
  have h7 : tmps[u']?.getD undef = v3 := by simpa using h6
  simp [results, hres, h3, h5, h7]) hR

/-! ### the short forms that a program writes -/
theorem sg {all : Array Oper} {i : Nat} (n : Nat) (ds : List Nat) (fr' : Fr) (h : TO dm P N Q all k fr' w (i + n)) (hs : ∀ j, (seg P N all j (all.toList.drop i) n fr w).map (fun r => (keep ds r.1, r.2)) = some (fr', w) := by intro j; kernel_rfl) : TO dm P N Q all k fr w i := to_seg n ds hs h
theorem nw {all : Array Oper} {i : Nat} {o : Oper} (M : Mem wr w L) (d : Nat) (cs : Array Value) (t : TypeId) (h : ∀ b w', Mem wr w' (blk b cs t :: L) → TO dm P N Q all k ((d, .pointer (some ⟨b, 0, none⟩)) :: fr) w' (i + 1))
    (ho : all.toList[i]? = some o := by rfl) (hd : o.dst = some d := by rfl) (hw : ∀ j, Region.wanted o (yl N all j fr) = true := by intro j; rfl)
    (hr : ∀ j, (execOp (ev j fr) o).run P w = .ok (.value (.pointer (some ⟨w.heap.size, 0, none⟩))) { w with heap := w.heap.push (.cells cs t (0, 0)) } := by intro j; kernel_rfl) (hN : Nat.blt d N = true := by rfl) : TO dm P N Q all k fr w i :=
  to_new M ho d hd cs t hw hr hN h
theorem ld {all : Array Oper} {i : Nat} {o : Oper} (M : Mem wr w L) (p : Nat) (d : Nat) (v : Value) (h : TO dm P N Q all k ((d, v) :: fr) w (i + 1)) {ty : TypeId} {x : Operand} {b n : Nat} {cs : Array Value} {t : TypeId}
    (ho : all.toList[i]? = some o := by rfl) (hd : o.dst = some d := by rfl) (hop : o.op = .load ty x := by rfl) (hw : ∀ j, Region.wanted o (yl N all j fr) = true := by intro j; rfl)
    (hx : ∀ j, ev j fr x = .pointer (some ⟨b, n, none⟩) := by intro j; rfl) (hp : L[p]? = some (blk b cs t) := by rfl) (hv : cs[n]? = some v := by rfl) (hg : (isAgg ty).run P w = .ok false w := by kernel_rfl) (hN : Nat.blt d N = true := by rfl) : TO dm P N Q all k fr w i :=
  to_load M p ho d hd hop hw hx hp v hv hg hN h
theorem la {all : Array Oper} {i : Nat} {o : Oper} (M : Mem wr w L) (p : Nat) (d : Nat) (vs : Array Value) (h : TO dm P N Q all k ((d, .agg vs) :: fr) w (i + 1)) {ty : TypeId} {x : Operand} {b n : Nat} {cs : Array Value} {t : TypeId} {D : TypeDesc}
    (hu : P.underlying ty = some D) (hD : D.isRow = true := by rfl)
    (ho : all.toList[i]? = some o := by rfl) (hd : o.dst = some d := by rfl) (hop : o.op = .load ty x := by rfl) (hw : ∀ j, Region.wanted o (yl N all j fr) = true := by intro j; rfl)
    (hx : ∀ j, ev j fr x = .pointer (some ⟨b, n, none⟩) := by intro j; rfl) (hp : L[p]? = some (blk b cs t) := by rfl) (hv : cs.extract n (n + vs.size) = vs := by rfl) (hi : (P.info? ty).map (·.size) = some vs.size := by kernel_rfl) (hN : Nat.blt d N = true := by rfl) : TO dm P N Q all k fr w i :=
  to_loadA M p ho d hd hop hw hx hp vs hv hu hD hi hN h
theorem st {all : Array Oper} {i : Nat} {o : Oper} (M : Mem wr w L) (p : Nat) (cs' : Array Value) {b n : Nat} {cs : Array Value} {t : TypeId} {v : Value} (h : ∀ w', Mem wr w' (L.set p (blk b cs' t)) → TO dm P N Q all k fr w' (i + 1)) {ty : TypeId} {x y : Operand}
    (ho : all.toList[i]? = some o := by rfl) (hd : o.dst = none := by rfl) (hop : o.op = .store ty x y := by rfl) (hw : ∀ j, Region.wanted o (yl N all j fr) = true := by intro j; rfl)
    (hx : ∀ j, ev j fr x = .pointer (some ⟨b, n, none⟩) := by intro j; rfl) (hy : ∀ j, ev j fr y = v := by intro j; rfl) (hp : L[p]? = some (blk b cs t) := by rfl) (hn : Nat.blt n cs.size = true := by rfl) (hcs : cs.setIfInBounds n v = cs' := by rfl)
    (hi : (P.info? ty).map (·.size) = some 1 := by kernel_rfl) (h1 : v.oneCell' = true := by rfl) : TO dm P N Q all k fr w i :=
  to_store M p ho hd hop hw hx hy hp (blt_lt hn) cs' hcs hi h1 h
theorem sa {all : Array Oper} {i : Nat} {o : Oper} (M : Mem wr w L) (p : Nat) (cs' : Array Value) {b n : Nat} {cs vs : Array Value} {t : TypeId} (h : ∀ w', Mem wr w' (L.set p (blk b cs' t)) → TO dm P N Q all k fr w' (i + 1)) {ty : TypeId} {x y : Operand}
    (ho : all.toList[i]? = some o := by rfl) (hd : o.dst = none := by rfl) (hop : o.op = .store ty x y := by rfl) (hw : ∀ j, Region.wanted o (yl N all j fr) = true := by intro j; rfl)
    (hx : ∀ j, ev j fr x = .pointer (some ⟨b, n, none⟩) := by intro j; rfl) (hy : ∀ j, ev j fr y = .agg vs := by intro j; rfl) (hp : L[p]? = some (blk b cs t) := by rfl) (hn : Nat.ble (n + vs.size) cs.size = true := by rfl) (hcs : splice cs n vs.toList = cs' := by kernel_rfl)
    (hi : (P.info? ty).map (·.size) = some vs.size := by kernel_rfl) (h1 : vs.all (·.oneCell') = true := by kernel_rfl) : TO dm P N Q all k fr w i :=
  to_storeA M p ho hd hop hw hx hy hp (Nat.le_of_ble_eq_true hn) cs' hcs hi h1 h
/-- A call by a contract that names its value. -/
theorem cb {all : Array Oper} {i : Nat} {o : Oper} {F : FuncId} {args : Array Value} {V : Value} (M : Mem wr w L) (d : Nat) (hc : Calls P F args w fun e w' => e = .returned V ∧ Below w.heap.size w w')
    (h : ∀ w', Below w.heap.size w w' → Mem wr w' L → TO dm P N Q all k ((d, V) :: fr) w' (i + 1))
    (ho : all.toList[i]? = some o := by rfl) (hd : o.dst = some d := by rfl) (hw : ∀ j, Region.wanted o (yl N all j fr) = true := by intro j; rfl)
    (hr : ∀ j, (execOp (ev j fr) o).run P w = .ok (.enter F args) w := by intro j; kernel_rfl) (hN : Nat.blt d N = true := by rfl) : TO dm P N Q all k fr w i :=
  to_call ho hw hr hc d hd hN fun e w' he => ⟨V, he.1, h w' he.2 (M.call he.2)⟩
/-- A call by any contract. -/
theorem ce {all : Array Oper} {i : Nat} {o : Oper} {F : FuncId} {args : Array Value} {R' : Ending → World → Prop} (d : Nat) (hc : Calls P F args w R')
    (h : ∀ e w', R' e w' → ∃ v, e = .returned v ∧ TO dm P N Q all k ((d, v) :: fr) w' (i + 1))
    (ho : all.toList[i]? = some o := by rfl) (hd : o.dst = some d := by rfl) (hw : ∀ j, Region.wanted o (yl N all j fr) = true := by intro j; rfl)
    (hr : ∀ j, (execOp (ev j fr) o).run P w = .ok (.enter F args) w := by intro j; kernel_rfl) (hN : Nat.blt d N = true := by rfl) : TO dm P N Q all k fr w i :=
  to_call ho hw hr hc d hd hN h
theorem c0 {all : Array Oper} {i : Nat} {o : Oper} {F : FuncId} {args : Array Value} {R' : Ending → World → Prop} (hc : Calls P F args w R')
    (h : ∀ e w', R' e w' → (∃ v, e = .returned v) ∧ TO dm P N Q all k fr w' (i + 1))
    (ho : all.toList[i]? = some o := by rfl) (hd : o.dst = none := by rfl) (hw : ∀ j, Region.wanted o (yl N all j fr) = true := by intro j; rfl)
    (hr : ∀ j, (execOp (ev j fr) o).run P w = .ok (.enter F args) w := by intro j; kernel_rfl) : TO dm P N Q all k fr w i :=
  to_call0 ho hw hr hc hd h
theorem ix {all : Array Oper} {i : Nat} {o : Oper} (d : Nat) (q sz : Nat) {ad : Addr} {n c : Nat} (hq : q < n) {T e : TypeId} (hu : P.underlying T = some (.slice e)) (h : TO dm P N Q all k ((d, .pointer (some (ad.add (q * sz)))) :: fr) w (i + 1)) {x y : Operand} {kk : IntKind}
    (ho : all.toList[i]? = some o := by rfl) (hd : o.dst = some d := by rfl) (hop : o.op = .indexAddr T x y := by rfl) (hw : ∀ j, Region.wanted o (yl N all j fr) = true := by intro j; rfl)
    (hx : ∀ j, ev j fr x = .slice (some ad) n c := by intro j; rfl) (hy : ∀ j, ev j fr y = .int kk (q : Int) := by intro j; rfl) (hs : (P.info? e).map (·.size) = some sz := by kernel_rfl) (hN : Nat.blt d N = true := by rfl) : TO dm P N Q all k fr w i :=
  to_index ho d hd hop hw hx q hy hu sz hs hq hN h
theorem le {all : Array Oper} {i : Nat} {o : Oper} (d : Nat) (v : Value) {a : Addr} (hv : w.cell? a = some v) (h : TO dm P N Q all k ((d, v) :: fr) w (i + 1)) {ty : TypeId} {x : Operand}
    (ho : all.toList[i]? = some o := by rfl) (hd : o.dst = some d := by rfl) (hop : o.op = .load ty x := by rfl) (hw : ∀ j, Region.wanted o (yl N all j fr) = true := by intro j; rfl)
    (hx : ∀ j, ev j fr x = .pointer (some a) := by intro j; rfl) (hg : (isAgg ty).run P w = .ok false w := by kernel_rfl) (hN : Nat.blt d N = true := by rfl) : TO dm P N Q all k fr w i :=
  to_loadE ho d hd hop hw hx hv hg hN h
theorem lea {all : Array Oper} {i : Nat} {o : Oper} (d : Nat) (vs : Array Value) {a : Addr} {cs : List Value} (hc : ∀ j u, cs[j]? = some u → w.cell? (a.add j) = some u) (h : TO dm P N Q all k ((d, .agg vs) :: fr) w (i + 1)) {ty : TypeId} {x : Operand} {D : TypeDesc} (hu : P.underlying ty = some D) (hvs : vs.toList = cs := by rfl) (hD : D.isRow = true := by rfl)
    (ho : all.toList[i]? = some o := by rfl) (hd : o.dst = some d := by rfl) (hop : o.op = .load ty x := by rfl) (hw : ∀ j, Region.wanted o (yl N all j fr) = true := by intro j; rfl)
    (hx : ∀ j, ev j fr x = .pointer (some a) := by intro j; rfl) (hi : (P.info? ty).map (·.size) = some vs.size := by kernel_rfl) (hN : Nat.blt d N = true := by rfl) : TO dm P N Q all k fr w i := by
  subst hvs
  exact to_loadEA ho d hd hop hw hx hc hu hD (by simpa using hi) hN (by simpa using h)
end
end Go.Proofs.Ytfknhbgghpbkpaa.Cal
