/- Rows of the call's own: made, grown, joined, read; and what a call hands back of them. -/
import Derived.Test.YtfknhbgghpbkpaaBase
import Derived.Maps.AppendAt
import Derived.Deep.Upon
namespace Go.Proofs.Ytfknhbgghpbkpaa.Cal
open Go.RowKit Go.Proofs.YtfknhbgghpbkpaaW.PrintWords
def row {α : Type} (d : Kd α) (e : TypeId) (v : Value) (xs : List α) : Ent := own d e 0 v xs
def Flat {α : Type} (d : Kd α) : Prop := ∀ w x cs, d.K w x cs → ∀ w' ok, d.M w' 0 ok x cs
section
variable {α : Type} {d : Kd α} {e : TypeId} {wr w w' : World} {L L' : List Ent} {v : Value} {xs ys : List α}
theorem Mem.nilrow (M : Mem wr w L) (d : Kd α) (e : TypeId) : Mem wr w (row d e (.slice none 0 0) [] :: L) :=
  M.add (Below.refl _ _) (fun _ => False) (fun _ h => h.elim) (Kd.R_nil d e w 0 _)
theorem Mem.flat (M : Mem wr w L) {x : α} {cs : List Value} (h : ∀ ok, d.M w 0 ok x cs) : Mem wr w (owns d 0 x cs :: L) :=
  M.add (Below.refl _ _) (fun _ => False) (fun _ h => h.elim) (h _)
theorem Sep.join {w : World} : ∀ {L' L : List Ent} {T T' : Nat → Prop}, (∀ k, T' k → ¬ T k) → Sep w T' L' → Sep w T L → Sep w (fun k => T k ∨ T' k) (L' ++ L)
  | [], _, _, _, _, _, h => h.mono fun _ hk => .inl hk
  | e :: L', L, T, T', hd, ⟨S, hS, he, hr⟩, h => by
    refine ⟨S, fun k hk => .inr (hS k hk), he, ?_⟩
    refine Sep.mono ?_ (Sep.join (L' := L') (fun k hk => hd k hk.1) hr h)
    rintro k (hk | hk)
    · exact ⟨.inl hk, fun hs => hd k (hS k hs) hk⟩
    · exact ⟨.inr hk.1, hk.2⟩
/-- What a call leaves is laid in front. -/
theorem Mem.join (M : Mem wr w L) (M' : Mem w w' L') : Mem wr w' (L' ++ L) :=
  ⟨(M.call M'.below).below, Sep.mono (fun k hk => hk.elim (fun hk => ⟨hk.1, Nat.lt_of_lt_of_le hk.2 M'.below.size⟩) (fun hk => ⟨Nat.le_trans M.size hk.1, hk.2⟩))
    (Sep.join (fun k hk hk' => absurd hk'.2 (Nat.not_lt.2 hk.1)) M'.sep (M.sep.move fun k hk _ => M'.below.block k hk.2))⟩
/-- An entry is dropped. -/
theorem Sep.drop {w : World} : ∀ {L : List Ent} {T : Nat → Prop} (p : Nat), Sep w T L → Sep w T (L.eraseIdx p)
  | [], _, _, h => h
  | _ :: _, _, 0, ⟨_, _, _, hr⟩ => hr.mono fun _ hk => hk.1
  | _ :: _, _, p + 1, ⟨S, hS, he, hr⟩ => ⟨S, hS, he, Sep.drop p hr⟩
theorem Mem.drop (M : Mem wr w L) (p : Nat) : Mem wr w (L.eraseIdx p) := ⟨M.below, M.sep.drop p⟩
/-- Entries by their places, in that order. -/
theorem Mem.swap {e1 e2 : Ent} (M : Mem wr w (e1 :: e2 :: L)) : Mem wr w (e2 :: e1 :: L) := M.front 1 rfl
theorem Mem.row_slice (M : Mem wr w L) (p : Nat) (hp : L[p]? = some (row d e v xs)) : ∃ A c, v = .slice A xs.length c ∧ xs.length ≤ c ∧ d.C w A xs.length xs := by
  obtain ⟨S, _, he⟩ := M.get p hp
  exact Kd.R_reads he
/-- What a row of its own reads. -/
theorem Mem.row_C (M : Mem wr w L) (p : Nat) {A : Option Addr} {n c : Nat} (hp : L[p]? = some (row d e (.slice A n c) xs)) : d.C w A xs.length xs := by
  obtain ⟨A', c', h1, _, h3⟩ := M.row_slice p hp
  injection h1 with h1 _ _
  subst h1
  exact h3
theorem Mem.row_cap (M : Mem wr w L) (p : Nat) {A : Option Addr} {n c : Nat} (hp : L[p]? = some (row d e (.slice A n c) xs)) : xs.length ≤ c := by
  obtain ⟨A', c', h1, h2, _⟩ := M.row_slice p hp
  injection h1 with _ _ h1
  omega
theorem Mem.owns_K (M : Mem wr w L) (p : Nat) {x : α} {cs : List Value} (hp : L[p]? = some (owns d 0 x cs)) : d.K w x cs := by
  obtain ⟨S, _, he⟩ := M.get p hp
  exact d.K_of_M he
/-- A row of one, of an element that is its own. -/
theorem Mem.built1 {x : α} {cs : Array Value} (M : Mem wr w (owns d 0 x cs.toList :: L)) (e : TypeId) : Mem wr { w with heap := w.heap.push (.cells cs e (0, 0)) } (row d e (.slice (some ⟨w.heap.size, 0, none⟩) 1 1) [x] :: L) := by
  obtain ⟨hb, S, hS, he, hr⟩ := M
  have hne : ∀ k, S k → k ≠ w.heap.size := fun k hk => Nat.ne_of_lt (hS k hk).2
  have hbl : Below w.heap.size w (w.alloc (.cells cs e (0, 0))) := (Below.refl _ _).alloc (Nat.le_refl _) _
  have hsz : wr.heap.size ≤ w.heap.size := hb.size
  have hM : d.M (w.alloc (.cells cs e (0, 0))) 0 (fun k => (S k ∨ k = w.heap.size) ∧ some k ≠ (Value.slice (some ⟨w.heap.size, 0, none⟩) 1 1).ownBlock) x cs.toList :=
    d.M_mono (fun k hk => ⟨.inl hk, by simpa [Value.ownBlock] using hne k hk⟩) (Kd.M_step he (fun k _ hlt => hbl.block k hlt))
  have hK := d.K_len (d.K_of_M hM)
  have hrow := OwnRow.lit (R := d.M (w.alloc (.cells cs e (0, 0))) 0 (fun k => (S k ∨ k = w.heap.size) ∧ some k ≠ (Value.slice (some ⟨w.heap.size, 0, none⟩) 1 1).ownBlock)) (e := e) (size := d.sz) (ps := [x]) w 0 (inner := cs.toList) (by simpa using (Reps.none _ d.sz).snoc hM hK) (Nat.zero_le _) (by simp)
  refine ⟨⟨hb.os, hb.tape, hb.output, ?_, fun k hk => ?_⟩, fun k => S k ∨ k = w.heap.size, ?_, ⟨?_, by simpa using hrow⟩, ?_⟩
  · simp; omega
  · exact (hbl.block k (by omega)).trans (hb.block k hk)
  · rintro k (hk | rfl)
    · have := hS k hk; simp; omega
    · simp; omega
  · intro k hk
    simp [Value.ownBlock] at hk
    exact .inr hk.symm
  · refine Sep.mono ?_ (Sep.move (w' := w.alloc (.cells cs e (0, 0))) (fun k hk _ => hbl.block k hk.1.2) hr)
    rintro k ⟨hk, hs⟩
    refine ⟨⟨hk.1, by simp; omega⟩, ?_⟩
    rintro (h | rfl)
    · exact hs h
    · exact absurd hk.2 (Nat.lt_irrefl _)
/-- A row of flat elements. -/
theorem Mem.builtF (M : Mem wr w L) (d : Kd α) (e : TypeId) (xs : List α) (cs : Array Value) (hr : Reps (fun x c => ∀ w' ok, d.M w' 0 ok x c) d.sz xs cs.toList) (hm : xs.length ≤ 9223372036854775807) :
    Mem wr { w with heap := w.heap.push (.cells cs e (0, 0)) } (row d e (.slice (some ⟨w.heap.size, 0, none⟩) xs.length xs.length) xs :: L) := by
  have hbl : Below w.heap.size w (w.alloc (.cells cs e (0, 0))) := (Below.refl _ _).alloc (Nat.le_refl _) _
  have hrow := OwnRow.lit (R := d.M (w.alloc (.cells cs e (0, 0))) 0 (fun k => k = w.heap.size ∧ some k ≠ (Value.slice (some ⟨w.heap.size, 0, none⟩) xs.length xs.length).ownBlock)) (e := e) (size := d.sz) (ps := xs) w 0 (inner := cs.toList)
    (hr.imp_ fun x c h => h _ _) (Nat.zero_le _) hm
  refine M.add (w' := w.alloc (.cells cs e (0, 0))) hbl (fun k => k = w.heap.size) (fun _ hk => by subst hk; simp) ⟨fun k hk => ?_, by simpa using hrow⟩
  simp [Value.ownBlock] at hk
  exact hk.symm
/-! ### append -/
section
variable {P : Program}
/-- append's run onto a row of its own: the old elements, the new ones (with what is theirs). -/
theorem run_app (d : Kd α) {e : TypeId} {t ty : TypeId} {z : Value} {bytes : Nat} (ht : P.underlying t = some (.slice e)) (hi : (P.info? e).map (fun i => (i.zero, i.size, i.bytes)) = some (some z, d.sz, bytes)) (hz : z.cells.size = d.sz) (hs0 : 0 < d.sz) (hb0 : 0 < bytes)
    {w : World} {v : Value} {xs ys : List α} {S1 S2 : Nat → Prop} (hR : d.R e w 0 S1 v xs) (A : Option Addr) (c : Nat) (news : List Value) (hA : ys ≠ [] → ∃ a, A = some a ∧ ∀ j u, news[j]? = some u → w.cell? (a.add j) = some u)
    (hr2 : Reps (d.M w 0 S2) d.sz ys news) (hdis : ∀ k, S2 k → ¬ S1 k) (hl : (xs.length + ys.length) * bytes ≤ 140737488355328) :
    ∃ v' w', (Builtin.append_ #[t, t] ty #[v, .slice A ys.length c]).run P w = .ok v' w' ∧ w.grownBy w' v.ownBlock ∧ d.R e w' 0 (fun k => S1 k ∨ S2 k ∨ (w.heap.size ≤ k ∧ k < w'.heap.size)) v' (xs ++ ys) := by
  obtain ⟨i0, hi0, hzz⟩ := Option.map_eq_some_iff.1 hi
  simp only [Prod.mk.injEq] at hzz
  obtain ⟨hz0, hz1, hz2⟩ := hzz
  by_cases hy : ys = []
  · subst hy
    obtain ⟨A1, c1, rfl, hle, _⟩ := Kd.R_reads hR
    refine ⟨_, w, ?_, ⟨rfl, rfl, rfl, Nat.le_refl _, fun _ _ _ => rfl⟩, by simpa using Kd.R_mono hR fun k hk => .inl hk⟩
    cases A <;> cases A1 <;> simp [Builtin.append_, run_underlying ht, sizeOf, typeInfo, hi0, Builtin.lenOf, Builtin.firstCells, hle, loadCells, loadCellsFrom, storeCells]
  · obtain ⟨a, rfl, hnews⟩ := hA hy
    obtain ⟨h0, inner, hown, hr⟩ := hR
    have h1 : ∀ u ∈ news, u.oneCell' = true := by
      intro u hu
      obtain ⟨q, hq, rfl⟩ := List.mem_iff_getElem.1 hu
      have hql : q / d.sz < ys.length := by rw [Nat.div_lt_iff_lt_mul hs0, ← hr2.1]; exact hq
      refine d.K_one (d.K_of_M (hr2.2 (q / d.sz) _ (List.getElem?_eq_getElem hql))) _ ?_
      rw [List.mem_iff_getElem?]
      refine ⟨q % d.sz, ?_⟩
      rw [List.getElem?_take, if_pos (Nat.mod_lt _ hs0), List.getElem?_drop, Nat.mul_comm, Nat.div_add_mod, List.getElem?_eq_getElem hq]
    have hlen : xs.length + ys.length ≤ 140737488355328 := Nat.le_trans (Nat.le_mul_of_pos_right _ hb0) hl
    obtain ⟨v', w', hrun, ho', hg, _, hat⟩ := run_append_own_at (P := P) w 0 t ty e i0 z d.sz bytes ht hi0 hz0 hz1 hz2 hz hs0 v xs.length inner hown a ys.length c news hr2.1 hnews h1 (by simp only [maxLen]; omega) hl (Nat.zero_le _)
    refine ⟨v', w', hrun, hg, ?_⟩
    have hne : ∀ k, some k ≠ v.ownBlock → k < w.heap.size → some k ≠ v'.ownBlock := by
      intro k hk hlt
      rcases hat with hat | hat
      · rw [hat]; exact hk
      · rw [hat]; intro h; injection h with h; omega
    refine ⟨fun k hk => ?_, inner ++ news, by rw [List.length_append]; exact ho', Kd.reps_append (hr.imp_ fun q cs hq => ?_) (hr2.imp_ fun q cs hq => ?_)⟩
    · rcases hat with hat | hat
      · exact .inl (h0 k (hat ▸ hk))
      · have := own_lt ho' k hk
        rw [hat] at hk
        injection hk with hk
        exact .inr (.inr ⟨by omega, this⟩)
    · have hq' := d.M_move (w1 := w') (fun k hk => hg.block k hk.2.2.1 hk.1.2) (d.M_bound hq)
      exact d.M_mono (fun k hk => ⟨.inl hk.1.1, hne k hk.1.2 hk.2.2.1⟩) hq'
    · have hv : ∀ k, S2 k → some k ≠ v.ownBlock := fun k hk e1 => hdis k hk (h0 k e1.symm)
      have hq' := d.M_move (w1 := w') (fun k hk => hg.block k hk.2.2.1 (hv k hk.1)) (d.M_bound hq)
      exact d.M_mono (fun k hk => ⟨.inr (.inl hk.1), hne k (hv k hk.1) hk.2.2.1⟩) hq'
/-- Two rows of its own are joined. -/
theorem Mem.app {t ty : TypeId} {z : Value} {bytes : Nat} {A : Option Addr} {m c : Nat} (M : Mem wr w (row d e v xs :: row d e (.slice A m c) ys :: L)) (ht : P.underlying t = some (.slice e)) (hi : (P.info? e).map (fun i => (i.zero, i.size, i.bytes)) = some (some z, d.sz, bytes)) (hz : z.cells.size = d.sz) (hs0 : 0 < d.sz) (hb0 : 0 < bytes)
    (hl : (xs.length + ys.length) * bytes ≤ 140737488355328) :
    ∃ A' c' w', (Builtin.append_ #[t, t] ty #[v, .slice A m c]).run P w = .ok (.slice A' (xs ++ ys).length c') w' ∧ Mem wr w' (row d e (.slice A' (xs ++ ys).length c') (xs ++ ys) :: L) := by
  obtain ⟨A2, c2, h1, _, hC⟩ := M.row_slice 1 rfl
  injection h1 with h1 h2 h3
  subst h1 h2 h3
  obtain ⟨hb, S1, hS1, he1, S2, hS2, ⟨h02, news, ho2, hr2⟩, hr⟩ := M
  have hnews : ys ≠ [] → ∃ a, A = some a ∧ ∀ j u, news[j]? = some u → w.cell? (a.add j) = some u := by
    intro hy
    rcases ho2.2 with ⟨h, h'⟩ | ⟨g, cap, cur, h, _, hg, hle, _, hcs, htk⟩
    · exact absurd (List.eq_nil_of_length_eq_zero h') hy
    · injection h with h _ _
      subst h
      refine ⟨_, rfl, fun j u hj => ?_⟩
      rw [show (Addr.add ⟨g, 0, none⟩ j) = ⟨g, j, none⟩ by simp [Addr.add]; omega, blk_cell hg]
      rw [← htk, List.getElem?_take] at hj
      split at hj
      · simpa using hj
      · cases hj
  obtain ⟨v', w', hrun, hg, hR⟩ := run_app (ty := ty) d ht hi hz hs0 hb0 he1 A c news hnews (S2 := S2) (hr2.imp_ fun x cs h => d.M_mono (fun k hk => hk.1) h) (fun k hk => (hS2 k hk).2) hl
  obtain ⟨A', c', rfl⟩ := Kd.R_slice hR
  have hge : ∀ k, v.ownBlock = some k → wr.heap.size ≤ k := fun k hk => (hS1 k (he1.1 k hk)).1
  refine ⟨A', c', w', hrun, ⟨hg.os.trans hb.os, hg.tape.trans hb.tape, hg.output.trans hb.output, Nat.le_trans hb.size hg.size, fun k hk => ?_⟩, _, ?_, hR, ?_⟩
  · exact (hg.block k (Nat.lt_of_lt_of_le hk hb.size) (fun h => absurd (hge k h.symm) (by omega))).trans (hb.block k hk)
  · have h1 := hb.size
    have h2 := hg.size
    rintro k (hk | hk | hk)
    · have := hS1 k hk; omega
    · have := (hS2 k hk).1; omega
    · omega
  · refine Sep.mono ?_ (Sep.move (w' := w') (fun k hk _ => hg.block k hk.1.1.2 (fun h => hk.1.2 (he1.1 k h.symm))) hr)
    rintro k ⟨⟨hk, n1⟩, n2⟩
    have h2 := hg.size
    refine ⟨⟨hk.1, by omega⟩, ?_⟩
    rintro (h | h | h)
    · exact n1 h
    · exact n2 h
    · omega
/-- A row that is read, of flat elements, is put behind one of its own. -/
theorem Mem.appC {t ty : TypeId} {z : Value} {bytes : Nat} {A : Option Addr} {c : Nat} (M : Mem wr w (row d e v xs :: L)) (hf : Flat d) (hC : d.C w A ys.length ys) (ht : P.underlying t = some (.slice e)) (hi : (P.info? e).map (fun i => (i.zero, i.size, i.bytes)) = some (some z, d.sz, bytes)) (hz : z.cells.size = d.sz) (hs0 : 0 < d.sz) (hb0 : 0 < bytes)
    (hl : (xs.length + ys.length) * bytes ≤ 140737488355328) :
    ∃ A' c' w', (Builtin.append_ #[t, t] ty #[v, .slice A ys.length c]).run P w = .ok (.slice A' (xs ++ ys).length c') w' ∧ Mem wr w' (row d e (.slice A' (xs ++ ys).length c') (xs ++ ys) :: L) := by
  obtain ⟨hb, S1, hS1, he1, hr⟩ := M
  have hnews : ∃ news, Reps (d.M w 0 (fun _ => False)) d.sz ys news ∧ (ys ≠ [] → ∃ a, A = some a ∧ ∀ j u, news[j]? = some u → w.cell? (a.add j) = some u) := by
    by_cases hy : ys = []
    · subst hy
      exact ⟨[], Reps.none _ _, fun h => absurd rfl h⟩
    · have hpos : 0 < ys.length := List.length_pos_iff.2 hy
      obtain ⟨a, rfl, _⟩ := hC.2.2 hpos
      obtain ⟨inner, h1, h2⟩ := ReadsRow.inner_ hC
      exact ⟨inner, h1.imp_ fun x cs h => hf _ _ _ h _ _, fun _ => ⟨a, rfl, h2⟩⟩
  obtain ⟨news, hr2, hA⟩ := hnews
  obtain ⟨v', w', hrun, hg, hR⟩ := run_app (ty := ty) d ht hi hz hs0 hb0 he1 A c news hA hr2 (fun k hk => hk.elim) hl
  obtain ⟨A', c', rfl⟩ := Kd.R_slice hR
  have hge : ∀ k, v.ownBlock = some k → wr.heap.size ≤ k := fun k hk => (hS1 k (he1.1 k hk)).1
  refine ⟨A', c', w', hrun, ⟨hg.os.trans hb.os, hg.tape.trans hb.tape, hg.output.trans hb.output, Nat.le_trans hb.size hg.size, fun k hk => ?_⟩, _, ?_, hR, ?_⟩
  · exact (hg.block k (Nat.lt_of_lt_of_le hk hb.size) (fun h => absurd (hge k h.symm) (by omega))).trans (hb.block k hk)
  · have h1 := hb.size
    have h2 := hg.size
    rintro k (hk | hk | hk)
    · have := hS1 k hk; omega
    · exact hk.elim
    · omega
  · refine Sep.mono ?_ (Sep.move (w' := w') (fun k hk _ => hg.block k hk.1.2 (fun h => hk.2 (he1.1 k h.symm))) hr)
    rintro k ⟨hk, n1⟩
    have h2 := hg.size
    refine ⟨⟨hk.1, by omega⟩, ?_⟩
    rintro (h | h | h)
    · exact n1 h
    · exact h
    · omega
end
end
section
variable {dm : List Deferred} {P : Program} {N : Nat} {Q : Exit → Act → World → Prop} {k : List It} {fr fr' : Fr} {wr w : World} {L : List Ent} {all : Array Oper} {i : Nat} {o : Oper} {α : Type} {d : Kd α} {e : TypeId} {xs ys : List α}
theorem exec_append {ρ : Operand → Value} {t : TypeId} {s x : Operand} {u1 u2 v' : Value} {w' : World} (hop : o.op = .call { callee := .builtin .append, args := #[s, x], argTypes := #[t, t] }) (h1 : ρ s = u1) (h2 : ρ x = u2)
    (hr : (Builtin.append_ #[t, t] o.type #[u1, u2]).run P w = .ok v' w') : (execOp ρ o).run P w = .ok (.value v') w' := by
  subst h1 h2
  unfold execOp
  simp only [hop, resolve, invoke, builtin, Sem.run_bind, Sem.run_pure, Result.andThen_ok, List.map_toArray, List.map_cons, List.map_nil, hr]
/-- A slice's literal: a new row. -/
theorem bs1 {x : α} {cs : Array Value} (M : Mem wr w (owns d 0 x cs.toList :: L)) (dst : Nat) (e : TypeId) (h : ∀ b w', Mem wr w' (row d e (.slice (some ⟨b, 0, none⟩) 1 1) [x] :: L) → TO dm P N Q all k ((dst, .slice (some ⟨b, 0, none⟩) 1 1) :: fr) w' (i + 1))
    (ho : all.toList[i]? = some o := by rfl) (hd : o.dst = some dst := by rfl) (hw : ∀ j, Region.wanted o (yl N all j fr) = true := by intro j; rfl)
    (hr : ∀ j, (execOp (ev j fr) o).run P w = .ok (.value (.slice (some ⟨w.heap.size, 0, none⟩) 1 1)) { w with heap := w.heap.push (.cells cs e (0, 0)) } := by intro j; kernel_rfl) (hN : Nat.blt dst N = true := by rfl) : TO dm P N Q all k fr w i :=
  to_op ho hw hr (by unfold put1; rw [hd]; simp only [hN, cond_true]) (h _ _ (M.built1 e))
theorem bsF (M : Mem wr w L) (dst : Nat) (d : Kd α) (e : TypeId) (xs : List α) (cs : Array Value) (hrep : Reps (fun x c => ∀ w' ok, d.M w' 0 ok x c) d.sz xs cs.toList) (hm : xs.length ≤ 9223372036854775807)
    (h : ∀ b w', Mem wr w' (row d e (.slice (some ⟨b, 0, none⟩) xs.length xs.length) xs :: L) → TO dm P N Q all k ((dst, .slice (some ⟨b, 0, none⟩) xs.length xs.length) :: fr) w' (i + 1))
    (ho : all.toList[i]? = some o := by rfl) (hd : o.dst = some dst := by rfl) (hw : ∀ j, Region.wanted o (yl N all j fr) = true := by intro j; rfl)
    (hr : ∀ j, (execOp (ev j fr) o).run P w = .ok (.value (.slice (some ⟨w.heap.size, 0, none⟩) xs.length xs.length)) { w with heap := w.heap.push (.cells cs e (0, 0)) } := by intro j; kernel_rfl) (hN : Nat.blt dst N = true := by rfl) : TO dm P N Q all k fr w i :=
  to_op ho hw hr (by unfold put1; rw [hd]; simp only [hN, cond_true]) (h _ _ (M.builtF d e xs cs hrep hm))
/-- append: two rows of its own. -/
theorem ap {v : Value} {A : Option Addr} {m c : Nat} (M : Mem wr w (row d e v xs :: row d e (.slice A m c) ys :: L)) (dst : Nat) {t : TypeId} (ht : P.underlying t = some (.slice e)) (bytes : Nat) (hl : (xs.length + ys.length) * bytes ≤ 140737488355328)
    (h : ∀ A' c' w', Mem wr w' (row d e (.slice A' (xs ++ ys).length c') (xs ++ ys) :: L) → TO dm P N Q all k ((dst, .slice A' (xs ++ ys).length c') :: fr) w' (i + 1)) {z : Value} {s x : Operand}
    (ho : all.toList[i]? = some o := by rfl) (hd : o.dst = some dst := by rfl) (hop : o.op = .call { callee := .builtin .append, args := #[s, x], argTypes := #[t, t] } := by rfl) (hw : ∀ j, Region.wanted o (yl N all j fr) = true := by intro j; rfl)
    (h1 : ∀ j, ev j fr s = v := by intro j; rfl) (h2 : ∀ j, ev j fr x = .slice A m c := by intro j; rfl) (hi : (P.info? e).map (fun i => (i.zero, i.size, i.bytes)) = some (some z, d.sz, bytes) := by kernel_rfl) (hz : z.cells.size = d.sz := by rfl) (hs0 : Nat.blt 0 d.sz = true := by rfl) (hb0 : Nat.blt 0 bytes = true := by rfl) (hN : Nat.blt dst N = true := by rfl) : TO dm P N Q all k fr w i := by
  obtain ⟨A', c', w', hr, M'⟩ := M.app (P := P) (t := t) (ty := o.type) ht hi hz (blt_lt hs0) (blt_lt hb0) hl
  exact to_op ho hw (fun j => exec_append hop (h1 j) (h2 j) hr) (by unfold put1; rw [hd]; simp only [hN, cond_true]) (h A' c' w' M')
/-- append: a row that is read. -/
theorem apC {v : Value} {A : Option Addr} {c : Nat} (M : Mem wr w (row d e v xs :: L)) (dst : Nat) (hf : Flat d) (hC : d.C w A ys.length ys) {t : TypeId} (ht : P.underlying t = some (.slice e)) (bytes : Nat) (hl : (xs.length + ys.length) * bytes ≤ 140737488355328)
    (h : ∀ A' c' w', Mem wr w' (row d e (.slice A' (xs ++ ys).length c') (xs ++ ys) :: L) → TO dm P N Q all k ((dst, .slice A' (xs ++ ys).length c') :: fr) w' (i + 1)) {z : Value} {s x : Operand}
    (ho : all.toList[i]? = some o := by rfl) (hd : o.dst = some dst := by rfl) (hop : o.op = .call { callee := .builtin .append, args := #[s, x], argTypes := #[t, t] } := by rfl) (hw : ∀ j, Region.wanted o (yl N all j fr) = true := by intro j; rfl)
    (h1 : ∀ j, ev j fr s = v := by intro j; rfl) (h2 : ∀ j, ev j fr x = .slice A ys.length c := by intro j; rfl) (hi : (P.info? e).map (fun i => (i.zero, i.size, i.bytes)) = some (some z, d.sz, bytes) := by kernel_rfl) (hz : z.cells.size = d.sz := by rfl) (hs0 : Nat.blt 0 d.sz = true := by rfl) (hb0 : Nat.blt 0 bytes = true := by rfl) (hN : Nat.blt dst N = true := by rfl) : TO dm P N Q all k fr w i := by
  obtain ⟨A', c', w', hr, M'⟩ := M.appC (P := P) (t := t) (ty := o.type) (c := c) hf hC ht hi hz (blt_lt hs0) (blt_lt hb0) hl
  exact to_op ho hw (fun j => exec_append hop (h1 j) (h2 j) hr) (by unfold put1; rw [hd]; simp only [hN, cond_true]) (h A' c' w' M')
end
end Go.Proofs.Ytfknhbgghpbkpaa.Cal
