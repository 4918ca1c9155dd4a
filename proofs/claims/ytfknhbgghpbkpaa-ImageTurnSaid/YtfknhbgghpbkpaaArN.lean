/- The program's own: the row's words are copied in place. -/
import Derived.Test.YtfknhbgghpbkpaaArM
namespace Go.Proofs.Ytfknhbgghpbkpaa
open Go.RowKit Cal Go.Proofs.YtfknhbgghpbkpaaW.PrintWords
theorem own_C {w : World} {us vs0 : List RawG} {l : List Blk} {k : Nat} {hd : List Value} {A : Option Addr} {n c : Nat} (hv : us.getD k rawG0 = (hd, A, n, c)) (he : us.getD k rawG0 = vs0.getD k rawG0) (hr : RawR SB w (vs0.getD k rawG0) (l.getD k Blk.z)) :
    kW.C w A (l.getD k Blk.z).w.length (l.getD k Blk.z).w ∧ (l.getD k Blk.z).w.length ≤ c := by
  rw [← he, hv] at hr; exact ⟨hr.2.2.2, hr.2.2.1⟩
structure OwnI (l : List Blk) (vs0 us : List RawG) (k : Nat) : Prop where
  le : k ≤ l.length
  ok : rawGOk SB us l
  rest : ∀ j, k ≤ j → j < l.length → us.getD j rawG0 = vs0.getD j rawG0
theorem raw_ok {w : World} {vs : List RawG} {l : List Blk} (hl : vs.length = l.length) (hr : ∀ j, j < l.length → RawR SB w (vs.getD j rawG0) (l.getD j Blk.z)) : rawGOk SB vs l := ⟨hl, fun j hj => ⟨(hr j hj).1, (hr j hj).2.1⟩⟩
theorem getD_set_ne {α : Type} {us : List α} {i j : Nat} {v z : α} (h : i ≠ j) : (us.set i v).getD j z = us.getD j z := by simp [List.getElem?_set_ne h]
theorem getD_set_eq {α : Type} {us : List α} {i : Nat} {v z : α} (h : i < us.length) : (us.set i v).getD i z = v := by simp [h]
theorem owni_step {l : List Blk} {vs0 us : List RawG} {k : Nat} {v : RawG} (h : OwnI l vs0 us k) (hk : k < l.length) (h1 : v.1 = SB.hd (l.getD k Blk.z)) (h2 : v.2.2.1 = (l.getD k Blk.z).w.length) : OwnI l vs0 (us.set k v) (k + 1) := by
  have hl := h.ok.1
  refine ⟨by omega, ⟨by rw [List.length_set]; exact hl, fun j hj => ?_⟩, fun j h3 h4 => by rw [getD_set_ne (by omega)]; exact h.rest j (by omega) h4⟩
  by_cases e : k = j
  · subst e; rw [getD_set_eq (by omega)]; exact ⟨h1, h2⟩
  · rw [getD_set_ne e]; exact h.ok.2 j hj
theorem set_take {α : Type} {us : List α} {k : Nat} {v : α} (h : k < us.length) : (us.set k v).take (k + 1) = us.take k ++ [v] := by
  rw [take_step v _ (by rw [List.length_set]; exact h), getD_set_eq h, List.take_set_of_le (Nat.le_refl _)]
theorem Mem.rd_apartR {α β : Type} {S : Shp α β} {wr w : World} {L : List Ent} {A : Option Addr} {vs : List RawG} {fs : List α} (h : rawGOk S vs fs) (M : Mem wr w (rdE (kRawG S.h) A vs :: star (codesG S vs fs) :: L)) : Mem wr w (rdE S.d A fs :: L) := by
  obtain ⟨hb, S1, hS1, he1, S2, hS2, he2, hr⟩ := M
  refine ⟨hb, fun k => S1 k ∨ S2 k, fun k hk => hk.elim (hS1 k) (fun hk => (hS2 k hk).1), fun w' hw => ?_, hr.mono fun k hk => ⟨hk.1.1, fun hs => hs.elim hk.1.2 hk.2⟩⟩
  have h3 := he1 w' (fun k hk hlt => hw k (.inl hk) hlt)
  have h2 := (star (codesG S vs fs)).move (fun k hk hlt => hw k (.inr hk) hlt) he2
  refine raw_CG h3 h.1 fun j hj => ?_
  obtain ⟨S3, _, h4⟩ := Sep.get h2 (codesG_at h.1 hj)
  obtain ⟨A', c', e2, hl, h5⟩ := Kd.R_reads h4
  injection e2 with e2 _ e3
  exact ⟨(h.2 j hj).1, (h.2 j hj).2, by omega, by rw [e2]; exact h5⟩
namespace Cal
section
variable {P : Program} {N : Nat} {dm : List Deferred} {Q : Exit → Act → World → Prop} {fr : Fr} {wr w : World} {L : List Ent} {all : Array Oper} {S : World → Prop} {ds : List Nat} {fuel : Nat} {listed : Array Bool} {α : Type} {d : Kd α} {e : TypeId} {vs ys : List α}
/-- append onto the beginning of a row, without room there: read alone. -/
theorem Mem.appR {t ty : TypeId} {z : Value} {bytes : Nat} {A A2 : Option Addr} {n c c2 h : Nat} (M : Mem wr w (row d e (.slice A n c) vs :: L)) (hf : Flat d) (hh : h ≤ vs.length) (hD : d.C w A2 ys.length ys) (ht : P.underlying t = some (.slice e)) (hi : (P.info? e).map (fun i => (i.zero, i.size, i.bytes)) = some (some z, d.sz, bytes)) (hz : z.cells.size = d.sz) (hs0 : 0 < d.sz) (hb0 : 0 < bytes)
    (hl : ((vs.take h).length + ys.length) * bytes ≤ 140737488355328) :
    ∃ A' c' w', (Builtin.append_ #[t, t] ty #[.slice A (vs.take h).length (vs.take h).length, .slice A2 ys.length c2]).run P w = .ok (.slice A' (vs.take h ++ ys).length c') w' ∧ Mem wr w' (rdE d A' (vs.take h ++ ys) :: L) ∧ (vs.take h ++ ys).length ≤ c' := by
  by_cases hy : ys = []
  · subst hy
    have hi2 : (P.info? e).map (·.size) = some d.sz := by
      obtain ⟨i0, hi0, hzz⟩ := Option.map_eq_some_iff.1 hi
      simp only [Prod.mk.injEq] at hzz
      rw [hi0]; exact congrArg some hzz.2.1
    refine ⟨A, (vs.take h).length, w, ?_, ?_, ?_⟩
    · rw [List.append_nil]; exact run_app0 ht hi2 (Nat.le_refl _) w
    · rw [List.append_nil]; exact (M.rowtakeL h hh).rd_row
    · rw [List.append_nil]; exact Nat.le_refl _
  · obtain ⟨A', c', w', h1, h2⟩ := M.tail.appG (P := P) (t := t) (ty := ty) (c2 := c2) hf (Kd.C_take (M.row_C 0 rfl) hh) hD hy ht hi hz hs0 hb0 hl
    exact ⟨A', c', w', h1, h2.rd_row, h2.row_cap 0 rfl⟩
theorem te_apR {i : Nat} {o : Oper} {A A2 : Option Addr} {n c c2 h : Nat} (M : Mem wr w (row d e (.slice A n c) vs :: L)) (dst : Nat) (hf : Flat d) (hh : h ≤ vs.length) (hD : d.C w A2 ys.length ys) {t : TypeId} (ht : P.underlying t = some (.slice e)) (bytes : Nat) (hl : ((vs.take h).length + ys.length) * bytes ≤ 140737488355328)
    (hSk : ∀ A' (_ : Nat) w', Mem wr w' (rdE d A' (vs.take h ++ ys) :: L) → i ∉ ds → S w → S w')
    (hk : ∀ A' c' w', Mem wr w' (rdE d A' (vs.take h ++ ys) :: L) → (vs.take h ++ ys).length ≤ c' → TY dm P N Q all S ds fuel (listed.setIfInBounds i true) ((dst, .slice A' (vs.take h ++ ys).length c') :: fr) w') {z : Value} {s x : Operand}
    (ho : all[i]? = some o := by rfl) (hd : o.dst = some dst := by rfl) (hop : o.op = .call { callee := .builtin .append, args := #[s, x], argTypes := #[t, t] } := by rfl) (hw : ∀ j, Region.wanted o (yl N all j fr) = true := by intro j; rfl)
    (h1 : ∀ j, ev j fr s = .slice A (vs.take h).length (vs.take h).length := by intro j; rfl) (h2 : ∀ j, ev j fr x = .slice A2 ys.length c2 := by intro j; rfl) (hi : (P.info? e).map (fun i => (i.zero, i.size, i.bytes)) = some (some z, d.sz, bytes) := by kernel_rfl) (hz : z.cells.size = d.sz := by rfl) (hs0 : Nat.blt 0 d.sz = true := by rfl) (hb0 : Nat.blt 0 bytes = true := by rfl) (hN : Nat.blt dst N = true := by rfl) : TE dm P N Q all S ds fuel listed fr w i := by
  obtain ⟨A', c', w', hr, M', hc⟩ := M.appR (P := P) (t := t) (ty := o.type) (c2 := c2) hf hh hD ht hi hz (blt_lt hs0) (blt_lt hb0) hl
  exact te_op dst _ (fun j => exec_append hop (h1 j) (h2 j) hr) (hSk A' c' w' M') (hk A' c' w' M' hc) ho hd hw hN
end
end Cal
end Go.Proofs.Ytfknhbgghpbkpaa
