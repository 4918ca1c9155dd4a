/- What a round keeps; the mark among the deferred calls; the rule of a range over a function with two loop variables. -/
import Derived.Test.YtfknhbgghpbkpaaRng
namespace Go.Proofs.Ytfknhbgghpbkpaa.Cal
open Go.RowKit Go.Proofs.YtfknhbgghpbkpaaW.PrintWords
/-- What a round keeps: all that lay below n0 and all cells, but those of X. -/
structure KB (n0 : Nat) (X : Nat → Prop) (A B : World) : Prop where
  os : B.os = A.os
  tape : B.tape = A.tape
  output : B.output = A.output
  size : A.heap.size ≤ B.heap.size
  low : ∀ k, k < n0 → ¬ X k → B.heap[k]? = A.heap[k]?
  cells : ∀ k o, A.heap[k]? = some o → o.isCells = true → ¬ X k → B.heap[k]? = some o
theorem KB.trans {n0 : Nat} {X : Nat → Prop} {A B C : World} (h : KB n0 X A B) (k : KB n0 X B C) : KB n0 X A C :=
  ⟨k.os.trans h.os, k.tape.trans h.tape, k.output.trans h.output, Nat.le_trans h.size k.size, fun i hi hx => (k.low i hi hx).trans (h.low i hi hx), fun i o hi hc hx => k.cells i o (h.cells i o hi hc hx) hc hx⟩
theorem KB.put {n0 : Nat} {X : Nat → Prop} (W : World) (l : Nat) (o o' : Obj) (hl : n0 ≤ l) (h : W.heap[l]? = some o) (hc : o.isCells = false) : KB n0 X W (W.putObj l o') :=
  ⟨rfl, rfl, rfl, by simp, fun k hk _ => World.putObj_heap_other (by omega), fun k q hk hq _ => by
    by_cases e : k = l
    · subst e; rw [h] at hk; cases hk; rw [hc] at hq; cases hq
    · exact (World.putObj_heap_other e).trans hk⟩
theorem KB.refl {n0 : Nat} {X : Nat → Prop} (W : World) : KB n0 X W W := ⟨rfl, rfl, rfl, Nat.le_refl _, fun _ _ _ => rfl, fun _ _ h _ _ => h⟩
/-- Between two rounds: the entries lie below u. -/
structure MI (wr : World) (u : Nat) (w : World) (L : List Ent) : Prop where
  below : Below wr.heap.size wr w
  lo : wr.heap.size ≤ u
  hi : u ≤ w.heap.size
  sep : Sep w (fun k => wr.heap.size ≤ k ∧ k < u) L
theorem Mem.mi {wr w : World} {L : List Ent} (M : Mem wr w L) : MI wr w.heap.size w L := ⟨M.below, M.size, Nat.le_refl _, M.sep⟩
theorem MI.mem {wr w : World} {u : Nat} {L : List Ent} (M : MI wr u w L) : Mem wr w L := ⟨M.below, M.sep.mono fun _ hk => ⟨hk.1, Nat.lt_of_lt_of_le hk.2 M.hi⟩⟩
theorem MI.own {wr : World} {u : Nat} {β : Type} (L : β → List Ent) (p : β → Prop) : OwnFrom u (fun s W => MI wr u W (L s) ∧ p s) := fun s W W' row ⟨M, hp⟩ hg hr => by
  have hne : ∀ k, k < u → some k ≠ row := fun k hk e => by have := (hr k e.symm).1; omega
  exact ⟨⟨⟨hg.os.trans M.below.os, hg.tape.trans M.below.tape, hg.output.trans M.below.output, Nat.le_trans M.below.size hg.size, fun k hk => (hg.block k (Nat.lt_of_lt_of_le hk M.below.size) (hne k (Nat.lt_of_lt_of_le hk M.lo))).trans (M.below.block k hk)⟩,
    M.lo, Nat.le_trans M.hi hg.size, M.sep.move fun k hk hlt => hg.block k hlt (hne k hk.2)⟩, hp⟩
/-- Within a round that began in W0: X may have been written. -/
structure MU (wr : World) (u : Nat) (X : Nat → Prop) (W0 w : World) (L : List Ent) : Prop where
  mi : MI wr u w L
  size : W0.heap.size ≤ w.heap.size
  keep : ∀ k, k < W0.heap.size → ¬ X k → w.heap[k]? = W0.heap[k]?
  be : Below wr.heap.size wr W0
  hu : u ≤ W0.heap.size
theorem MI.mu {wr w : World} {u : Nat} {X : Nat → Prop} {L : List Ent} (M : MI wr u w L) : MU wr u X w w L := ⟨M, Nat.le_refl _, fun _ _ _ => rfl, M.below, M.hi⟩
theorem MU.mem {wr W0 w : World} {u : Nat} {X : Nat → Prop} {L : List Ent} (M : MU wr u X W0 w L) : Mem wr w L := M.mi.mem
theorem MU.kb {wr W0 w : World} {u : Nat} {X : Nat → Prop} {L : List Ent} (M : MU wr u X W0 w L) : KB u X W0 w :=
  ⟨M.mi.below.os.trans M.be.os.symm, M.mi.below.tape.trans M.be.tape.symm, M.mi.below.output.trans M.be.output.symm, M.size, fun k hk hx => M.keep k (Nat.lt_of_lt_of_le hk M.hu) hx, fun k o hk _ hx => (M.keep k (Array.getElem?_eq_some_iff.1 hk).1 hx).trans hk⟩
theorem MU.from {wr W0 w : World} {u : Nat} {X : Nat → Prop} {L : List Ent} (M : MU wr u X W0 w L) (hX : ∀ k, X k → k < u) : KeepsFrom u W0 w :=
  ⟨M.size, fun k o hk h0 _ => (M.keep k (Array.getElem?_eq_some_iff.1 h0).1 (fun hx => by have := hX k hx; omega)).trans h0⟩
theorem MU.call {wr W0 w w' : World} {u : Nat} {X : Nat → Prop} {L : List Ent} (M : MU wr u X W0 w L) (hb : Below w.heap.size w w') : MU wr u X W0 w' L :=
  ⟨⟨below_then M.mi.below M.mi.below.size hb, M.mi.lo, Nat.le_trans M.mi.hi hb.size, M.mi.sep.move fun k _ hlt => hb.block k hlt⟩, Nat.le_trans M.size hb.size,
    fun k hk hx => (hb.block k (Nat.lt_of_lt_of_le hk M.size)).trans (M.keep k hk hx), M.be, M.hu⟩
theorem Sep.set {w : World} {b : Nat} {cs : Array Value} {t : TypeId} (n : Nat) (v : Value) : ∀ {L : List Ent} {T : Nat → Prop} {p : Nat}, Sep w T L → L[p]? = some (blk b cs t) → Sep (w.setCell ⟨b, n, none⟩ v) T (L.set p (blk b (cs.setIfInBounds n v) t))
  | [], _, _, _, h => by simp at h
  | e0 :: L, T, 0, ⟨S, hS, he, hr⟩, h => by
    simp only [List.getElem?_cons_zero, Option.some.injEq] at h
    subst h
    exact ⟨S, hS, ⟨he.1, blk_set he.2 n v⟩, hr.move fun k hk _ => Below.heap_setCell w _ v k (fun e => hk.2 (by subst e; exact he.1))⟩
  | e0 :: L, T, p + 1, ⟨S, hS, he, hr⟩, h => by
    simp only [List.getElem?_cons_succ] at h
    obtain ⟨S1, hS1, he1⟩ := Sep.get hr h
    refine ⟨S, hS, e0.move (fun k hk _ => Below.heap_setCell w _ v k (fun e => ?_)) he, Sep.set n v hr h⟩
    subst e
    exact (hS1 _ he1.1).2 hk
theorem MU.set {wr W0 w : World} {u : Nat} {X : Nat → Prop} {L : List Ent} (M : MU wr u X W0 w L) (p : Nat) {b : Nat} {cs : Array Value} {t : TypeId} (hp : L[p]? = some (blk b cs t)) (hx : X b) (n : Nat) (v : Value) :
    MU wr u X W0 (w.setCell ⟨b, n, none⟩ v) (L.set p (blk b (cs.setIfInBounds n v) t)) := by
  obtain ⟨S, hS, he⟩ := M.mi.sep.get hp
  have hbk := hS b he.1
  refine ⟨⟨⟨M.mi.below.os, M.mi.below.tape, M.mi.below.output, by simpa using M.mi.below.size, fun k hk => ?_⟩, M.mi.lo, by simpa using M.mi.hi, M.mi.sep.set n v hp⟩, by simpa using M.size, fun k hk hnx => ?_, M.be, M.hu⟩
  · exact (Below.heap_setCell w _ v k (by simp only [ne_eq]; omega)).trans (M.mi.below.block k hk)
  · exact (Below.heap_setCell w _ v k (fun e => hnx (by subst e; exact hx))).trans (M.keep k hk hnx)
section
variable {dm : List Deferred} {P : Program} {N : Nat} {Q : Exit → Act → World → Prop} {k : List It} {fr fr' : Fr} {wr W0 w : World} {u : Nat} {X : Nat → Prop} {L : List Ent}
/-- A cell of a block that the body may write. -/
theorem stU {all : Array Oper} {i : Nat} {o : Oper} (M : MU wr u X W0 w L) (p : Nat) (cs' : Array Value) {b n : Nat} {cs : Array Value} {t : TypeId} {v : Value} (hx0 : X b) (h : ∀ w', MU wr u X W0 w' (L.set p (blk b cs' t)) → TO dm P N Q all k fr w' (i + 1)) {ty : TypeId} {x y : Operand}
    (ho : all.toList[i]? = some o := by rfl) (hd : o.dst = none := by rfl) (hop : o.op = .store ty x y := by rfl) (hw : ∀ j, Region.wanted o (yl N all j fr) = true := by intro j; rfl)
    (hx : ∀ j, ev j fr x = .pointer (some ⟨b, n, none⟩) := by intro j; rfl) (hy : ∀ j, ev j fr y = v := by intro j; rfl) (hp : L[p]? = some (blk b cs t) := by rfl) (hn : Nat.blt n cs.size = true := by rfl) (hcs : cs.setIfInBounds n v = cs' := by rfl)
    (hi : (P.info? ty).map (·.size) = some 1 := by kernel_rfl) (h1 : v.oneCell' = true := by rfl) : TO dm P N Q all k fr w i := by
  have hb := M.mem.blk_at p hp
  refine to_op_skip ho hw (fun j => exec_store hop (hx j) (hy j) (run_store_one hi h1 ((blk_cell hb n).trans (Array.getElem?_eq_getElem (blt_lt hn))) (blk_frozen hb n))) hd (h _ ?_)
  subst hcs
  exact M.set p hp hx0 n v
end
/-! ### the mark -/
def markD (D : Nat) : Deferred := { target := .collected D, args := #[] }
def dfr (D : Nat) : Ent where
  H S w := S D ∧ w.heap[D]? = some (.deferred (some []))
  mono h := fun ⟨h1, h2⟩ => ⟨h D h1, h2⟩
  move h := fun ⟨h1, h2⟩ => ⟨h1, (h D h1 (Array.getElem?_eq_some_iff.1 h2).1).trans h2⟩
/-- What is asked of a body that holds such a loop (no panic). -/
def bodyQ (P : Program) (fn : Func) (R : Ending → World → Prop) : Exit → Act → World → Prop
  | .ret, a, w => bodyPostM (rF none) 3 P fn R .ret a w
  | .normal, a, w => bodyPostM (rF none) 3 P fn R .normal a w
  | _, _, _ => False
theorem pok_bodyQ {P : Program} {fn : Func} {R : Ending → World → Prop} : POk (bodyQ P fn R) := fun _ _ _ _ _ h => h
theorem calls_tcQ {P : Program} {f : FuncId} {fn : Func} {c : Code} {args : List Value} {w : World} {R : Ending → World → Prop} {N : Nat} (hf : P.funcs[f]? = some fn) (hb : fn.body = some c) (hN : fn.ntmps = N) (hl : Nat.ble args.length N = true)
    (h : TC [] P N (bodyQ P fn R) c [] (fr0 0 args) w) : Calls P f args.toArray w R := by
  have hle : args.length ≤ N := Nat.le_of_ble_eq_true hl
  refine callsIn_wide (n := 3).1 (callsIn_of_wp_marks hf hb trivial ?_ rfl)
  refine wpIn_mono (wpIn_wide.2 (h (fun _ => undef) _ ⟨?_, rfl, fun t => ?_⟩)) (fun e a w hq => ?_)
  · simp [hN]; omega
  · simp only [gv, look_fr0, Nat.zero_le, if_true, Nat.sub_zero, Array.getD_eq_getD_getElem?, Array.getElem?_append, List.size_toArray, List.getElem?_toArray]
    split
    · rfl
    · rename_i hlt
      rw [List.getElem?_eq_none (by omega)]
      simp only [Array.getElem?_replicate, Option.getD_none]
      split <;> rfl
  · cases e with
    | ret => exact hq
    | normal => exact hq
    | _ => exact hq.elim
section
variable {P : Program} {N : Nat} {fn : Func} {R : Ending → World → Prop} {fr : Fr} {wr w : World} {L : List Ent}
/-- A return ahead of the loop. -/
theorem tr_nom (h : TR [] N (bodyPost P fn R) fr w) : TR [] N (bodyQ P fn R) fr w := fun j a ha => by
  obtain ⟨hd, v, hr, hR⟩ := h j a ha
  show LeavesInM _ _ P fn a.tmps R a.defers .returning w
  rw [hd]
  exact ⟨v, hr, hR⟩
/-- A return behind it. -/
theorem tr_mark {D : Nat} (M : Mem wr w L) (p : Nat) (hp : L[p]? = some (dfr D)) (h : ∀ w', Mem wr w' (L.eraseIdx p) → TR [] N (bodyPost P fn R) fr w') : TR [markD D] N (bodyQ P fn R) fr w := fun j a ha => by
  obtain ⟨S, hS, he⟩ := M.get p hp
  have hM : Mem wr (w.putObj D (.deferred none)) (L.eraseIdx p) := by
    have h1 := M.front p hp
    obtain ⟨hb, S1, hS1, he1, hr⟩ := h1
    refine ⟨⟨hb.os, hb.tape, hb.output, by simpa using hb.size, fun k hk => ?_⟩, ?_⟩
    · have := (hS1 D he1.1).1
      exact (World.putObj_heap_other (by omega)).trans (hb.block k hk)
    · refine Sep.mono (fun k hk => ⟨hk.1.1, by simpa using hk.1.2⟩) (Sep.move (w' := w.putObj D (.deferred none)) (fun k hk _ => World.putObj_heap_other (fun e => hk.2 (by subst e; exact he1.1))) hr)
  obtain ⟨_, v, hr, hR⟩ := h _ hM j { a with defers := [] } ⟨ha.size, rfl, ha.get⟩
  show LeavesInM _ _ P fn a.tmps R a.defers .returning w
  rw [ha.defers]
  exact ⟨by simp, .inl ⟨D, _, rfl, run_takeDeferred he.2, v, hr, hR⟩⟩
end
/-! ### the rule -/
section
variable {P : Program} {N : Nat} {Q : Exit → Act → World → Prop} {k : List It} {fr : Fr} {wr w : World}
theorem out_own {α : Type} {B : Nat} {Kp : World → World → Prop} {I : List α → World → Prop} {Ix : Code → List α → World → Prop} {xs : List α} {W : World} : ∀ a w, ¬ ownPostG B Kp I Ix xs W .outgrown a w := fun _ _ h => h
/-- How a round's body goes on, and how it leaves. -/
theorem tni_go {α : Type} {l n : Nat} {X : Nat → Prop} {u : Nat} {W0 w : World} {L Lx : List α → List Ent} {p px : List α → Prop} {pre : List α} {fr : Fr} (hX : ∀ k, X k → k < u) (M : MU wr u X W0 w (L pre)) (hp : p pre) :
    TNi (some l) n [] P N (ownPostG u (KB u X) (fun s W => MI wr u W (L s) ∧ p s) (fun c s W => c = Code.ret ∧ MI wr u W (Lx s) ∧ px s) pre W0) [] fr w := fun _ _ _ => ⟨M.from hX, M.kb, M.mi, hp⟩
theorem tri_out {α : Type} {X : Nat → Prop} {u : Nat} {W0 w : World} {L Lx : List α → List Ent} {p px : List α → Prop} {pre : List α} {fr : Fr} (hX : ∀ k, X k → k < u) (M : MU wr u X W0 w (Lx pre)) (hp : px pre) :
    TR [] N (ownPostG u (KB u X) (fun s W => MI wr u W (L s) ∧ p s) (fun c s W => c = Code.ret ∧ MI wr u W (Lx s) ∧ px s) pre W0) fr w := fun _ _ _ => ⟨M.from hX, rfl, M.mi, hp⟩
theorem tc_range {α : Type} {g : Operand} {p0 p1 : Nat} {assign body : Code} {gf : Nat} {lb : Array Value} {e0 e1 : α → Value} {S Sp : List α → Prop} {Nn : Nat} (X : Nat → Prop) (L Lx : List α → List Ent) (p px : List α → Prop) (Fx : α → Fr)
    (M : Mem wr w (L [])) (hp : p []) (hX : ∀ k, X k → k < w.heap.size) (hg : ∀ j, ev j fr g = .func (.func gf) #[] lb) (eg : ∀ args w, (callFunc gf args).run P w = .ok (.enter gf args) w)
    (hseq : SeqStopsK (rF none) 2 P gf lb (fun x => #[e0 x, e1 x]) (KB w.heap.size X) S Sp Nn w) (hN0 : Nat.blt p0 N = true) (hN1 : Nat.blt p1 N = true)
    (hassign : ∀ l x W, TCi (some l) 1 [] P N (fun _ _ _ => False) assign [.inv (fun a W' => W' = W ∧ ∃ j, On [] N j (Fx x) a)] ((p1, e1 x) :: (p0, e0 x) :: fr) W)
    (hbody : ∀ l pre x W, MU wr w.heap.size X W W (L pre) → p pre → pre.length < Nn →
      TCi (some l) 1 [] P N (ownPostG w.heap.size (KB w.heap.size X) (fun s W => MI wr w.heap.size W (L s) ∧ p s) (fun c s W => c = Code.ret ∧ MI wr w.heap.size W (Lx s) ∧ px s) (pre ++ [x]) W) body [] (Fx x) W)
    (hdone : ∀ D xs W, S xs → p xs → Mem wr W (dfr D :: L xs) → TN [markD D] P N Q k fr W)
    (hstop : ∀ D pre W, Sp pre → px pre → Mem wr W (dfr D :: Lx pre) → TC [markD D] P N Q .ret k fr W) :
    TC [] P N Q (.rangeFunc g #[p0, p1] assign body) k fr w := fun j a ha => by
  have hmem : ∀ {D : Nat} {W : World} {A : List Ent}, w.heap.size ≤ D → MI wr w.heap.size W A → W.heap[D]? = some (.deferred (some [])) → Mem wr W (dfr D :: A) := fun {D W A} hD hM hK => by
    have hlt : D < W.heap.size := (Array.getElem?_eq_some_iff.1 hK).1
    refine ⟨hM.below, fun q => q = D, fun q hq => by subst hq; exact ⟨Nat.le_trans hM.lo hD, hlt⟩, ⟨rfl, hK⟩, hM.sep.mono fun q hq => ⟨⟨hq.1, Nat.lt_of_lt_of_le hq.2 hM.hi⟩, by omega⟩⟩
  refine wpIn_wide (n := 3).1 ?_
  refine wpIn_rangeFunc_ownH (F := rF none) (n := 3) rfl (by decide) (gf := gf) (lb := lb) (by rw [ha.eval]; exact hg j) trivial eg (encs := fun x => #[e0 x, e1 x]) (Kp := KB w.heap.size X) (S := S) (Sp := Sp) (N := Nn) (w0 := w) hseq
    (fun h k => h.trans k) (fun W l o o' hl h hc _ => KB.put W l o o' hl h hc) (Below.refl _ _) (fun _ => rfl)
    (fun s W => MI wr w.heap.size W (L s) ∧ p s) (fun c s W => c = Code.ret ∧ MI wr w.heap.size W (Lx s) ∧ px s) (MI.own L p)
    (fun c s W W' row ⟨hc, hm⟩ hg hr => ⟨hc, MI.own Lx px s W W' row hm hg hr⟩) ⟨M.mi, hp⟩ (fun x a' W => ∃ j, On [] N j (Fx x) a') (fun x a' s W W' row h _ _ => h) ?_ ?_ ?_ ?_
  · intro l pre x W K hI hK
    have hon : On [] N j ((p1, e1 x) :: (p0, e0 x) :: fr) { tmps := ((#[p0, p1] : Array Tmp).zip #[e0 x, e1 x]).foldl (fun t (p, v) => t.setIfInBounds p v) a.tmps, defers := [] } := by
      have h0 : On [] N j fr { tmps := a.tmps, defers := [] } := ⟨ha.size, rfl, ha.get⟩
      have h1 := (h0.put p0 (e0 x) (blt_lt hN0)).put p1 (e1 x) (blt_lt hN1)
      simpa [Act.put] using h1
    refine wpIn_mono (hassign l x W j _ hon) (fun e a' W' hq => ?_)
    cases e with
    | normal =>
      obtain ⟨rfl, hj⟩ := hq
      exact hK a' W' (KeepsFrom.refl _ _) (KB.refl _) hI hj
    | _ => exact hq.elim
  · rintro l pre x a' W _ _ ⟨hM, hpp⟩ ⟨j', hj'⟩ hlen
    exact hbody l pre x W hM.mu hpp hlen j' a' hj'
  · intro D xs W hD hS ⟨hM, hpp⟩ hK
    exact hdone D xs W hS hpp (hmem hD hM hK) j _ ⟨ha.size, by rw [ha.defers]; rfl, ha.get⟩
  · intro D c pre W hD hS ⟨hc, hM, hpp⟩ hK
    subst hc
    exact wpIn_wide.2 (hstop D pre W hS hpp (hmem hD hM hK) j _ ⟨ha.size, by rw [ha.defers]; rfl, ha.get⟩)
end
end Go.Proofs.Ytfknhbgghpbkpaa.Cal
