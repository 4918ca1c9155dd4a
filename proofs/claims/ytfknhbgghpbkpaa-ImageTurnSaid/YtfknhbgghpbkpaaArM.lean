/- Rows that are cut and joined: the beginning of one's own row; append onto a slice that has no room. -/
import Derived.Test.YtfknhbgghpbkpaaAr4
namespace Go.Proofs.Ytfknhbgghpbkpaa
open Go.RowKit Cal Go.Proofs.YtfknhbgghpbkpaaW.PrintWords
namespace Cal
theorem Mem.rowtake {α : Type} {d : Kd α} {e : TypeId} {wr w : World} {L : List Ent} {A : Option Addr} {n c : Nat} {xs : List α} (i : Nat) (hi : i ≤ xs.length) (M : Mem wr w (row d e (.slice A n c) xs :: L)) : Mem wr w (row d e (.slice A i c) (xs.take i) :: L) :=
  M.imp fun _ _ h => Kd.R_take h hi
section
variable {P : Program} {α : Type} {d : Kd α} {e : TypeId} {wr w : World} {L : List Ent} {xs ys : List α}
/-- append onto a slice without room, of a row that is not empty: a new row. -/
theorem Mem.appG {t ty : TypeId} {z : Value} {bytes : Nat} {A A2 : Option Addr} {c2 : Nat} (M : Mem wr w L) (hf : Flat d) (hC : d.C w A xs.length xs) (hD : d.C w A2 ys.length ys) (hy : ys ≠ []) (ht : P.underlying t = some (.slice e)) (hi : (P.info? e).map (fun i => (i.zero, i.size, i.bytes)) = some (some z, d.sz, bytes)) (hz : z.cells.size = d.sz) (hs0 : 0 < d.sz) (hb0 : 0 < bytes)
    (hl : (xs.length + ys.length) * bytes ≤ 140737488355328) :
    ∃ A' c' w', (Builtin.append_ #[t, t] ty #[.slice A xs.length xs.length, .slice A2 ys.length c2]).run P w = .ok (.slice A' (xs ++ ys).length c') w' ∧ Mem wr w' (row d e (.slice A' (xs ++ ys).length c') (xs ++ ys) :: L) := by
  obtain ⟨i0, hi0, hzz⟩ := Option.map_eq_some_iff.1 hi
  simp only [Prod.mk.injEq] at hzz
  obtain ⟨hz0, hz1, hz2⟩ := hzz
  have hyp : 0 < ys.length := List.length_pos_iff.2 hy
  obtain ⟨a2, rfl, _⟩ := hD.2.2 hyp
  obtain ⟨news, hn1, hn2⟩ := ReadsRow.inner_ hD
  have hlen : xs.length + ys.length ≤ 140737488355328 := Nat.le_trans (Nat.le_mul_of_pos_right _ hb0) hl
  have hone : ∀ u ∈ news, u.oneCell' = true := by
    intro u hu
    obtain ⟨q, hq, rfl⟩ := List.mem_iff_getElem.1 hu
    have hql : q / d.sz < ys.length := by rw [Nat.div_lt_iff_lt_mul hs0, ← hn1.1]; exact hq
    refine d.K_one (hn1.2 (q / d.sz) _ (List.getElem?_eq_getElem hql)) _ ?_
    rw [List.mem_iff_getElem?]
    refine ⟨q % d.sz, ?_⟩
    rw [List.getElem?_take, if_pos (Nat.mod_lt _ hs0), List.getElem?_drop, Nat.mul_comm, Nat.div_add_mod, List.getElem?_eq_getElem hq]
  have key : ∃ v' w' inner, (Builtin.append_ #[t, t] ty #[.slice A xs.length xs.length, .slice (some a2) ys.length c2]).run P w = .ok v' w' ∧ w'.ownsRow w.heap.size e d.sz v' (xs.length + ys.length) (inner ++ news) ∧ w.grownBy w' none ∧ Reps (d.K w) d.sz xs inner := by
    cases A with
    | some b =>
      obtain ⟨olds, ho1, ho2⟩ := ReadsRow.inner_ hC
      obtain ⟨v', w', h1, h2, h3⟩ := run_append_arg_grows (P := P) w t ty e i0 z d.sz bytes ht hi0 hz0 hz1 hz2 hz hs0 b xs.length xs.length olds ho1.1 ho2 a2 ys.length c2 news hn1.1 hn2 (by omega) (by simp only [maxLen]; omega) hl
      exact ⟨v', w', olds, h1, h2, h3, ho1⟩
    | none =>
      have hx : xs = [] := by
        rcases Nat.eq_zero_or_pos xs.length with h0 | h0
        · exact List.eq_nil_of_length_eq_zero h0
        · obtain ⟨ad, e1, _⟩ := hC.2.2 h0
          cases e1
      subst hx
      obtain ⟨v', w', h1, h2, h3, _⟩ := run_append_own (P := P) w w.heap.size t ty e i0 z d.sz bytes ht hi0 hz0 hz1 hz2 hz hs0 (.slice none 0 0) 0 [] (World.ownsRow_nil w _ e d.sz) a2 ys.length c2 news hn1.1 hn2 hone (by simp only [maxLen]; omega) (by simpa using hl) (Nat.le_refl _)
      exact ⟨v', w', [], h1, by simpa using h2, h3, Reps.none _ _⟩
  obtain ⟨v', w', inner, hrun, hown, hg, hrep⟩ := key
  have hR : d.R e w' 0 (fun k => v'.ownBlock = some k) v' (xs ++ ys) :=
    ⟨fun k hk => hk, inner ++ news, by rw [List.length_append]; exact own_weaken hown (Nat.zero_le _), Kd.reps_append (hrep.imp_ fun x cs h => hf _ _ _ h _ _) (hn1.imp_ fun x cs h => hf _ _ _ h _ _)⟩
  obtain ⟨A', c', rfl⟩ := Kd.R_slice hR
  exact ⟨A', c', w', hrun, M.add ((Below.refl _ w).grown hg (Nat.le_refl _) (fun k e => by cases e)) _ (fun k hk => ⟨own_base hown k hk, own_lt hown k hk⟩) hR⟩
/-- append of nothing onto a slice. -/
theorem run_app0 {t ty : TypeId} {A A2 : Option Addr} {n c c2 : Nat} (ht : P.underlying t = some (.slice e)) {sz : Nat} (hi : (P.info? e).map (·.size) = some sz) (hle : n ≤ c) (w : World) :
    (Builtin.append_ #[t, t] ty #[.slice A n c, .slice A2 0 c2]).run P w = .ok (.slice A n c) w := by
  obtain ⟨i0, hi0, _⟩ := Option.map_eq_some_iff.1 hi
  cases A <;> cases A2 <;> simp [Builtin.append_, run_underlying ht, sizeOf, typeInfo, hi0, Builtin.lenOf, Builtin.firstCells, hle, loadCells, loadCellsFrom, storeCells]
end
section
variable {P : Program} {N : Nat} {dm : List Deferred} {Q : Exit → Act → World → Prop} {fr : Fr} {wr w : World} {L : List Ent} {all : Array Oper} {S : World → Prop} {ds : List Nat} {fuel : Nat} {listed : Array Bool} {α : Type} {d : Kd α} {e : TypeId} {xs ys : List α}
theorem te_apG {i : Nat} {o : Oper} {A A2 : Option Addr} {c2 : Nat} (M : Mem wr w L) (dst : Nat) (hf : Flat d) (hC : d.C w A xs.length xs) (hD : d.C w A2 ys.length ys) (hy : ys ≠ []) {t : TypeId} (ht : P.underlying t = some (.slice e)) (bytes : Nat) (hl : (xs.length + ys.length) * bytes ≤ 140737488355328)
    (hSk : ∀ A' c' w', Mem wr w' (row d e (.slice A' (xs ++ ys).length c') (xs ++ ys) :: L) → i ∉ ds → S w → S w')
    (h : ∀ A' c' w', Mem wr w' (row d e (.slice A' (xs ++ ys).length c') (xs ++ ys) :: L) → TY dm P N Q all S ds fuel (listed.setIfInBounds i true) ((dst, .slice A' (xs ++ ys).length c') :: fr) w') {z : Value} {s x : Operand}
    (ho : all[i]? = some o := by rfl) (hd : o.dst = some dst := by rfl) (hop : o.op = .call { callee := .builtin .append, args := #[s, x], argTypes := #[t, t] } := by rfl) (hw : ∀ j, Region.wanted o (yl N all j fr) = true := by intro j; rfl)
    (h1 : ∀ j, ev j fr s = .slice A xs.length xs.length := by intro j; rfl) (h2 : ∀ j, ev j fr x = .slice A2 ys.length c2 := by intro j; rfl) (hi : (P.info? e).map (fun i => (i.zero, i.size, i.bytes)) = some (some z, d.sz, bytes) := by kernel_rfl) (hz : z.cells.size = d.sz := by rfl) (hs0 : Nat.blt 0 d.sz = true := by rfl) (hb0 : Nat.blt 0 bytes = true := by rfl) (hN : Nat.blt dst N = true := by rfl) : TE dm P N Q all S ds fuel listed fr w i := by
  obtain ⟨A', c', w', hr, M'⟩ := M.appG (P := P) (t := t) (ty := o.type) (c2 := c2) hf hC hD hy ht hi hz (blt_lt hs0) (blt_lt hb0) hl
  exact te_op dst _ (fun j => exec_append hop (h1 j) (h2 j) hr) (hSk A' c' w' M') (h A' c' w' M') ho hd hw hN
theorem te_ap0 {i : Nat} {o : Oper} {A A2 : Option Addr} {n c c2 : Nat} (dst : Nat) {t : TypeId} (ht : P.underlying t = some (.slice e)) (hle : n ≤ c) (h : TY dm P N Q all S ds fuel (listed.setIfInBounds i true) ((dst, .slice A n c) :: fr) w) {sz : Nat} {s x : Operand}
    (ho : all[i]? = some o := by rfl) (hd : o.dst = some dst := by rfl) (hop : o.op = .call { callee := .builtin .append, args := #[s, x], argTypes := #[t, t] } := by rfl) (hw : ∀ j, Region.wanted o (yl N all j fr) = true := by intro j; rfl)
    (h1 : ∀ j, ev j fr s = .slice A n c := by intro j; rfl) (h2 : ∀ j, ev j fr x = .slice A2 0 c2 := by intro j; rfl) (hi : (P.info? e).map (·.size) = some sz := by kernel_rfl) (hN : Nat.blt dst N = true := by rfl) : TE dm P N Q all S ds fuel listed fr w i :=
  te_op dst _ (fun j => exec_append hop (h1 j) (h2 j) (run_app0 ht hi hle w)) (fun _ h => h) h ho hd hw hN
end
/-- xs[:h:h], of whatever world. -/
theorem cut3 {P : Program} {α : Type} {d : Kd α} {T e : TypeId} {xs : List α} (hu : P.underlying T = some (.slice e)) (hs : (P.info? e).map (·.size) = some d.sz) (A : Option Addr) (xs : List α) (c h : Nat) (hh : h ≤ xs.length) (hc : xs.length ≤ c) :
    (∀ w, (Instr.sliceAt T (.slice A xs.length c) none (some (.int .i64 (h : Int))) (some (.int .i64 (h : Int)))).run P w = .ok (.slice A (xs.take h).length (xs.take h).length) w) ∧ (∀ w, d.C w A xs.length xs → d.C w A (xs.take h).length (xs.take h)) := by
  obtain ⟨inf, hi0, hsz⟩ := Option.map_eq_some_iff.1 hs
  have hlen : (xs.take h).length = h := by rw [List.length_take]; omega
  refine ⟨fun w => ?_, fun w hC => Kd.C_take hC hh⟩
  rw [hlen]
  have ha : (A.map fun x => x.add 0) = A := by cases A <;> simp [Addr.add]
  have h1 : (h : Int) ≤ (c : Int) := by omega
  simp [Instr.sliceAt, Instr.slice, Instr.sliceBounds, Instr.sliceBound, asIntOf, run_underlying hu, sizeOf, typeInfo, hi0, Sem.run_bind, h1, ha]
  intro hlt
  omega
theorem cuttA {P : Program} {α : Type} {d : Kd α} {T e : TypeId} (hu : P.underlying T = some (.slice e)) (hs : (P.info? e).map (·.size) = some d.sz) (A : Option Addr) (xs : List α) (c h : Nat) (kh : IntKind) (hh : h ≤ xs.length) (hc : xs.length ≤ c) :
    (∀ w, (Instr.sliceAt T (.slice A xs.length c) none (some (.int kh (h : Int))) none).run P w = .ok (.slice A (xs.take h).length c) w) ∧ (∀ w, d.C w A xs.length xs → d.C w A (xs.take h).length (xs.take h)) ∧ (xs.take h).length ≤ c := by
  obtain ⟨inf, hi0, hsz⟩ := Option.map_eq_some_iff.1 hs
  have hlen : (xs.take h).length = h := by rw [List.length_take]; omega
  refine ⟨fun w => ?_, fun w hC => Kd.C_take hC hh, by omega⟩
  have hr := cut_to T e kh hu hi0 A xs.length c (h : Int) (by omega) (by omega) hc w
  simp only [Int.toNat_natCast] at hr
  rw [hlen]
  exact (run_sliceAt hu _ _ _ _ w).trans hr
theorem exec_slice3 {P : Program} {o : Oper} {w : World} {ρ : Operand → Value} {T : TypeId} {x hi mx : Operand} {vx v vh vm : Value} (hop : o.op = .slice T x none (some hi) (some mx)) (hx : ρ x = vx) (hh : ρ hi = vh) (hm : ρ mx = vm)
    (hr : (Instr.sliceAt T vx none (some vh) (some vm)).run P w = .ok v w) : (execOp ρ o).run P w = .ok (.value v) w := by
  subst hx hh hm
  unfold execOp
  simp only [hop, Sem.run_bind, Option.map_none, Option.map_some, hr, Result.andThen_ok, Sem.run_pure]
end Cal
theorem raw_at {vs : List RawG} {l : List Blk} (h : rawGOk SB vs l) {j : Nat} (hj : j < l.length) : ∃ A c, vs.getD j rawG0 = ([.int .i64 (l.getD j Blk.z).id, .int .i64 (l.getD j Blk.z).pos], A, (l.getD j Blk.z).w.length, c) := by
  obtain ⟨h1, h2⟩ := h.2 j hj
  rcases hv : vs.getD j rawG0 with ⟨a, b, n, c⟩
  rw [hv] at h1 h2
  simp only [SB] at h1 h2
  subst h1 h2
  exact ⟨b, c, rfl⟩
theorem codeB_C {wr w : World} {L : List Ent} {vs : List RawG} {l : List Blk} {j : Nat} {hd : List Value} {A : Option Addr} {n c : Nat} (h : rawGOk SB vs l) (hj : j < l.length) (hv : vs.getD j rawG0 = (hd, A, n, c)) (M : Mem wr w (star (codesG SB vs l) :: L)) :
    kW.C w A (l.getD j Blk.z).w.length (l.getD j Blk.z).w ∧ (l.getD j Blk.z).w.length ≤ c := by
  have := codeG_C (S := SB) h.1 hj M
  rw [hv] at this
  exact this
def setW (l : List Blk) (j k : Nat) (v : Int) : List Blk := l.set j ⟨(l.getD j Blk.z).id, (l.getD j Blk.z).pos, (l.getD j Blk.z).w.set k v⟩
theorem setW_ok {vs : List RawG} {l : List Blk} (j k : Nat) (v : Int) (h : rawGOk SB vs l) : rawGOk SB vs (setW l j k v) := rawGOk_set h rfl (by simp [SB])
theorem setW_len (l : List Blk) (j k : Nat) (v : Int) : (setW l j k v).length = l.length := by simp [setW]
namespace Cal
section
variable {P : Program} {N : Nat} {dm : List Deferred} {Q : Exit → Act → World → Prop} {k : List It} {fr : Fr} {wr w : World} {L : List Ent} {all : Array Oper} {S : World → Prop} {ds : List Nat} {fuel : Nat} {listed : Array Bool} {vs : List RawG} {l : List Blk} {hd0 : List Value} {ad : Addr} {n c : Nat}
theorem cset_run (M : Mem wr w (star (codesG SB vs l) :: L)) (v : Int) (j q : Nat) (h : rawGOk SB vs l) (hj : j < l.length) (hk : q < (l.getD j Blk.z).w.length) (hv : vs.getD j rawG0 = (hd0, some ad, n, c)) {ty : TypeId} (hi : (P.info? ty).map (·.size) = some 1) :
    ∃ w', (Instr.storeAt ty (.pointer (some (ad.add (q * 1)))) (.int .u64 v)).run P w = .ok () w' ∧ Mem wr w' (star (codesG SB vs (setW l j q v)) :: L) := by
  obtain ⟨g, cur, rfl, hg, hsz, M'⟩ := codeG_set (S := SB) (x := v) ⟨(l.getD j Blk.z).id, (l.getD j Blk.z).pos, (l.getD j Blk.z).w.set q v⟩ (0 : Int) [.int .u64 v] h.1 hj hk (by rw [hv]) rfl (fun _ _ => rfl) M
  have hsz : q * 1 + 1 ≤ cur.size := hsz
  have hr := run_store_one (P := P) (w := w) (ty := ty) (a := ⟨g, q * 1, none⟩) (v := .int .u64 v) hi rfl ((blk_cell hg _).trans (Array.getElem?_eq_getElem (by omega))) (blk_frozen hg _)
  have ha : Addr.add ⟨g, 0, none⟩ (q * 1) = ⟨g, q * 1, none⟩ := add0 g (q * 1)
  rw [ha]
  exact ⟨_, hr, M'⟩
theorem te_csetG {i : Nat} {o : Oper} (M : Mem wr w (star (codesG SB vs l) :: L)) (v : Int) (j q : Nat) (hok : rawGOk SB vs l) (hj : j < l.length) (hk : q < (l.getD j Blk.z).w.length) (hv : vs.getD j rawG0 = (hd0, some ad, n, c))
    (hSk : ∀ w', Mem wr w' (star (codesG SB vs (setW l j q v)) :: L) → i ∉ ds → S w → S w')
    (h : ∀ w', Mem wr w' (star (codesG SB vs (setW l j q v)) :: L) → TY dm P N Q all S ds fuel (listed.setIfInBounds i true) fr w') {ty : TypeId} {a y : Operand}
    (ho : all[i]? = some o := by rfl) (hd : o.dst = none := by rfl) (hop : o.op = .store ty a y := by rfl) (hw : ∀ j, Region.wanted o (yl N all j fr) = true := by intro j; rfl)
    (hx : ∀ j', ev j' fr a = .pointer (some (ad.add (q * 1))) := by intro j; rfl) (hy : ∀ j, ev j fr y = .int .u64 v := by intro j; rfl) (hi : (P.info? ty).map (·.size) = some 1 := by kernel_rfl) : TE dm P N Q all S ds fuel listed fr w i := by
  obtain ⟨w', hr, M'⟩ := cset_run (P := P) M v j q hok hj hk hv hi
  exact te_skip (fun j' => exec_store hop (hx j') (hy j') hr) (hSk _ M') (h _ M') ho hd hw
theorem csetG {i : Nat} {o : Oper} (M : Mem wr w (star (codesG SB vs l) :: L)) (v : Int) (j q : Nat) (hok : rawGOk SB vs l) (hj : j < l.length) (hk : q < (l.getD j Blk.z).w.length) (hv : vs.getD j rawG0 = (hd0, some ad, n, c))
    (h : ∀ w', Mem wr w' (star (codesG SB vs (setW l j q v)) :: L) → TO dm P N Q all k fr w' (i + 1)) {ty : TypeId} {a y : Operand}
    (ho : all.toList[i]? = some o := by rfl) (hd : o.dst = none := by rfl) (hop : o.op = .store ty a y := by rfl) (hw : ∀ j, Region.wanted o (yl N all j fr) = true := by intro j; rfl)
    (hx : ∀ j', ev j' fr a = .pointer (some (ad.add (q * 1))) := by intro j; rfl) (hy : ∀ j, ev j fr y = .int .u64 v := by intro j; rfl) (hi : (P.info? ty).map (·.size) = some 1 := by kernel_rfl) : TO dm P N Q all k fr w i := by
  obtain ⟨w', hr, M'⟩ := cset_run (P := P) M v j q hok hj hk hv hi
  exact to_op_skip ho hw (fun j' => exec_store hop (hx j') (hy j') hr) hd (h _ M')
end
end Cal
/-! ### what is put, dropped, patched -/
def patchM (cap : Int) (l : List Blk) (a v : Int) : (Int × List Blk) × Int :=
  if mMay cap l = false then ((0, []), 1) else if ofM l a < 0 then ((0, []), 3) else ((cap, setW l (ofM l a).toNat (a - (l.getD (ofM l a).toNat Blk.z).pos).toNat v), 0)
theorem patch_at {cap : Int} {l : List Blk} {a v : Int} {n q : Nat} (hm : mMay cap l = true) (hw : WordAt l a n q) : patchM cap l a v = ((cap, setW l n q v), 0) := by
  unfold patchM
  rw [if_neg (by rw [hm]; decide), if_neg (by rw [hw.of]; omega), hw.of, Int.toNat_natCast]
  have : (a - (l.getD n Blk.z).pos).toNat = q := by have := hw.eq; omega
  rw [this]
theorem patch_no {cap : Int} {l : List Blk} {a v : Int} (hm : mMay cap l = false) : patchM cap l a v = ((0, []), 1) := by unfold patchM; rw [if_pos hm]
theorem patch_out {cap : Int} {l : List Blk} {a v : Int} (hm : mMay cap l = true) (h : ofM l a = -1) : patchM cap l a v = ((0, []), 3) := by unfold patchM; rw [if_neg (by rw [hm]; decide), if_pos (by omega)]
def dropM (cap : Int) (l : List Blk) (id : Int) : (Int × List Blk) × Int :=
  if mMay cap l = false then ((0, []), 1) else if idM l id < 0 then ((0, []), 3) else ((cap, l.eraseIdx (idM l id).toNat), 0)
theorem take_drop_erase {α : Type} (l : List α) (i : Nat) : l.take i ++ l.drop (i + 1) = l.eraseIdx i := (List.eraseIdx_eq_take_drop_succ l i).symm
theorem idM_lt {l : List Blk} {id : Int} {n : Nat} (h : (n : Int) = idM l id) : n < l.length := by
  unfold idM idxF at h
  split at h
  · rename_i i hi
    rw [List.findIdx?_eq_some_iff_getElem] at hi
    obtain ⟨hlt, _⟩ := hi
    omega
  · omega
def insM (l : List Blk) (b : Blk) : List Blk := l.takeWhile (fun x => decide (x.pos < b.pos)) ++ b :: l.dropWhile (fun x => decide (x.pos < b.pos))
theorem ins_eq {l : List Blk} {b : Blk} {i : Nat} (hi : i ≤ l.length) (h : ∀ j, j < i → (l.getD j Blk.z).pos < b.pos) (h2 : i < l.length → b.pos ≤ (l.getD i Blk.z).pos) : l.take i ++ b :: l.drop i = insM l b := by
  have key : ∀ (l : List Blk) (i : Nat), i ≤ l.length → (∀ j, j < i → (l.getD j Blk.z).pos < b.pos) → (i < l.length → b.pos ≤ (l.getD i Blk.z).pos) → l.takeWhile (fun x => decide (x.pos < b.pos)) = l.take i ∧ l.dropWhile (fun x => decide (x.pos < b.pos)) = l.drop i := by
    intro l
    induction l with
    | nil => intro i _ _ _; simp
    | cons x l ih =>
      intro i hi h h2
      cases i with
      | zero =>
        have := h2 (by simp)
        simp only [List.getD_cons_zero] at this
        simp [List.takeWhile_cons, List.dropWhile_cons, show ¬ x.pos < b.pos by omega]
      | succ i =>
        have h0 := h 0 (by omega)
        simp only [List.getD_cons_zero] at h0
        have := ih i (by simpa using hi) (fun j hj => by simpa using h (j + 1) (by omega)) (fun hlt => by simpa using h2 (by simpa using hlt))
        simp [List.takeWhile_cons, List.dropWhile_cons, h0, this.1, this.2]
  obtain ⟨e1, e2⟩ := key l i hi h h2
  unfold insM
  rw [e1, e2]
def putM (cap : Int) (l : List Blk) (id a : Int) (ws : List Int) : (Int × List Blk) × Int :=
  if mMay cap l = false ∨ id < 1 ∨ ws.length < 1 then ((0, []), 1) else if 0 ≤ idM l id ∨ freeM cap l a ws.length = false then ((0, []), 4) else ((cap, insM l ⟨id, a, ws⟩), 0)
theorem free_pos {cap : Int} {l : List Blk} {a n : Int} (hm : mMay cap l = true) (hn : 1 ≤ n) (h : freeM cap l a n = true) {j : Nat} (hj : j < l.length) : (l.getD j Blk.z).pos ≠ a := by
  intro e
  unfold freeM at h
  rw [Bool.and_eq_true, List.all_eq_true] at h
  have h0 := h.2 0 (List.mem_range.2 (by omega))
  simp only [decide_eq_true_eq] at h0
  have hw := (mMay_iff.1 hm).2.2 j hj
  obtain ⟨o1, o2, o3, o4, o5, o6, o7⟩ := hw
  have hin : inBlk a (l.getD j Blk.z) = true := by
    unfold inBlk Blk.fin
    rw [Bool.and_eq_true]
    simp only [decide_eq_true_eq]
    omega
  unfold ofM idxF at h0
  split at h0
  · omega
  · rename_i hno
    rw [List.findIdx?_eq_none_iff] at hno
    have := hno (l.getD j Blk.z) (at_mem Blk.z hj)
    rw [show a + ((0 : Nat) : Int) = a by omega] at this
    rw [hin] at this; cases this
theorem Cal.Mem.rowtakeL {α : Type} {d : Kd α} {e : TypeId} {wr w : World} {L : List Ent} {A : Option Addr} {n c : Nat} {xs : List α} (i : Nat) (hi : i ≤ xs.length) (M : Mem wr w (row d e (.slice A n c) xs :: L)) : Mem wr w (row d e (.slice A (xs.take i).length c) (xs.take i) :: L) := by
  rw [show (xs.take i).length = i by rw [List.length_take]; omega]
  exact M.rowtake i hi
theorem idM_cases (l : List Blk) (id : Int) : idM l id = -1 ∨ ∃ n : Nat, idM l id = (n : Int) ∧ n < l.length := by
  unfold idM idxF
  cases h : l.findIdx? (fun b => b.id == id) with
  | none => exact .inl rfl
  | some i =>
    rw [List.findIdx?_eq_some_iff_getElem] at h
    exact .inr ⟨i, rfl, h.1⟩
theorem drop_at {cap : Int} {l : List Blk} {id : Int} {n : Nat} (hm : mMay cap l = true) (h : idM l id = (n : Int)) : dropM cap l id = ((cap, l.eraseIdx n), 0) := by
  unfold dropM; rw [if_neg (by rw [hm]; decide), if_neg (by rw [h]; omega), h]; rfl
theorem drop_no {cap : Int} {l : List Blk} {id : Int} (hm : mMay cap l = false) : dropM cap l id = ((0, []), 1) := by unfold dropM; rw [if_pos hm]
theorem drop_out {cap : Int} {l : List Blk} {id : Int} (hm : mMay cap l = true) (h : idM l id = -1) : dropM cap l id = ((0, []), 3) := by unfold dropM; rw [if_neg (by rw [hm]; decide), if_pos (by omega)]
theorem erase_len {α : Type} {l : List α} {n : Nat} (h : n < l.length) : (l.eraseIdx n).length = l.length - 1 := List.length_eraseIdx_of_lt h
theorem erase_last {α : Type} {l : List α} {n : Nat} (h : l.length = n + 1) : l.eraseIdx n = l.take n := by
  rw [← take_drop_erase, List.drop_eq_nil_of_le (by omega), List.append_nil]
/-! ### the document's Put: its loop -/
def putE (dn : Bool) (A : Option Addr) (c : Nat) (ws : List Int) : Ent := bif dn then row kW 26 (.slice A ws.length c) ws else emp
theorem Cal.Mem.emp {wr w : World} {L : List Ent} (M : Mem wr w L) : Mem wr w (Cal.emp :: L) := M.add (Below.refl _ _) (fun _ => False) (fun _ h => h.elim) trivial
def usF (vs : List RawG) (x : RawG) (i q : Nat) (dn : Bool) : List RawG := bif dn then (vs.take q ++ [x]) ++ (vs.take i).drop q else vs.take i
theorem us_b {vs : List RawG} {x y : RawG} {i : Nat} (hi : i < vs.length) (hv : vs.getD i rawG0 = y) : (vs.take i ++ [x]) ++ [y] = usF vs x (i + 1) i true := by
  show _ = (vs.take i ++ [x]) ++ (vs.take (i + 1)).drop i
  rw [take_step rawG0 vs hi, List.drop_left' (by rw [List.length_take]; omega), hv]
theorem us_c {vs : List RawG} {x : RawG} {i : Nat} (hi : vs.length ≤ i) : vs.take i ++ [x] = usF vs x (i + 1) i true := by
  show _ = (vs.take i ++ [x]) ++ (vs.take (i + 1)).drop i
  rw [List.take_of_length_le (show vs.length ≤ i + 1 by omega), List.drop_eq_nil_of_le hi, List.append_nil]
theorem us_d {vs : List RawG} {x y : RawG} {i q : Nat} (hq : q ≤ i) (hi : i < vs.length) (hv : vs.getD i rawG0 = y) : usF vs x i q true ++ [y] = usF vs x (i + 1) q true := by
  show ((vs.take q ++ [x]) ++ (vs.take i).drop q) ++ [y] = (vs.take q ++ [x]) ++ (vs.take (i + 1)).drop q
  rw [take_step rawG0 vs hi, List.drop_append_of_le_length (by rw [List.length_take]; omega), hv, List.append_assoc (vs.take q ++ [x])]
theorem us_e {vs : List RawG} {x : RawG} {i q : Nat} (hi : vs.length ≤ i) : usF vs x i q true = usF vs x (i + 1) q true := by
  show (vs.take q ++ [x]) ++ (vs.take i).drop q = (vs.take q ++ [x]) ++ (vs.take (i + 1)).drop q
  rw [List.take_of_length_le hi, List.take_of_length_le (show vs.length ≤ i + 1 by omega)]
theorem us_end {vs : List RawG} {x : RawG} {i q : Nat} (hi : vs.length ≤ i) : usF vs x i q true = vs.take q ++ x :: vs.drop q := by
  show (vs.take q ++ [x]) ++ (vs.take i).drop q = _
  rw [List.take_of_length_le hi, List.append_assoc]; rfl
theorem us_len {vs : List RawG} {x : RawG} {i q : Nat} {dn : Bool} : (usF vs x i q dn).length ≤ vs.length + vs.length + 1 := by
  unfold usF
  cases dn
  · simp only [cond_false, List.length_take]; omega
  · simp only [cond_true, List.length_append, List.length_take, List.length_drop, List.length_cons, List.length_nil]; omega
/-- What holds at its head. -/
structure PutI (l : List Blk) (a : Int) (i q : Nat) (dn : Bool) : Prop where
  le : i ≤ l.length + 1
  no : dn = false → i ≤ l.length ∧ ∀ j, j < i → (l.getD j Blk.z).pos ≤ a
  yes : dn = true → q < i ∧ q ≤ l.length ∧ (∀ j, j < q → (l.getD j Blk.z).pos ≤ a) ∧ (q < l.length → a < (l.getD q Blk.z).pos)
theorem puti0 (l : List Blk) (a : Int) : PutI l a 0 0 false := ⟨Nat.zero_le _, fun _ => ⟨Nat.zero_le _, fun j h => absurd h (Nat.not_lt_zero _)⟩, fun h => by cases h⟩
theorem puti_go {l : List Blk} {a : Int} {i q : Nat} (h : PutI l a i q false) (hi : i < l.length) (hp : (l.getD i Blk.z).pos ≤ a) : PutI l a (i + 1) q false :=
  ⟨by omega, fun _ => ⟨by omega, fun j hj => by
    rcases Nat.lt_succ_iff_lt_or_eq.1 hj with h1 | h1
    · exact (h.no rfl).2 j h1
    · subst h1; exact hp⟩, fun e => by cases e⟩
theorem puti_in {l : List Blk} {a : Int} {i q : Nat} (h : PutI l a i q false) (hp : i < l.length → a < (l.getD i Blk.z).pos) : PutI l a (i + 1) i true :=
  ⟨by have := (h.no rfl).1; omega, (fun e => by cases e), fun _ => ⟨by omega, (h.no rfl).1, (h.no rfl).2, hp⟩⟩
theorem puti_on {l : List Blk} {a : Int} {i q : Nat} (h : PutI l a i q true) (hi : i ≤ l.length) : PutI l a (i + 1) q true :=
  ⟨by omega, (fun e => by cases e), fun _ => ⟨by have := (h.yes rfl).1; omega, (h.yes rfl).2.1, (h.yes rfl).2.2.1, (h.yes rfl).2.2.2⟩⟩
theorem put_no {cap : Int} {l : List Blk} {id a : Int} {ws : List Int} (h : mMay cap l = false ∨ id < 1 ∨ ws.length < 1) : putM cap l id a ws = ((0, []), 1) := by unfold putM; rw [if_pos h]
theorem put_full {cap : Int} {l : List Blk} {id a : Int} {ws : List Int} (h : ¬ (mMay cap l = false ∨ id < 1 ∨ ws.length < 1)) (h2 : 0 ≤ idM l id ∨ freeM cap l a ws.length = false) : putM cap l id a ws = ((0, []), 4) := by unfold putM; rw [if_neg h, if_pos h2]
theorem put_in {cap : Int} {l : List Blk} {id a : Int} {ws : List Int} {q : Nat} (hm : mMay cap l = true) (h1 : ¬ id < 1) (h2 : ¬ ws.length < 1) (h3 : ¬ 0 ≤ idM l id) (h4 : freeM cap l a ws.length = true) (hq : q ≤ l.length) (h5 : ∀ j, j < q → (l.getD j Blk.z).pos ≤ a) (h6 : q < l.length → a ≤ (l.getD q Blk.z).pos) :
    putM cap l id a ws = ((cap, l.take q ++ ⟨id, a, ws⟩ :: l.drop q), 0) := by
  unfold putM
  rw [if_neg (by rintro (h | h | h); rw [hm] at h; cases h; exact h1 h; exact h2 h), if_neg (by rintro (h | h); exact h3 h; rw [h4] at h; cases h)]
  rw [ins_eq (b := ⟨id, a, ws⟩) hq (fun j hj => by
    have := h5 j hj
    have := free_pos hm (by omega) h4 (show j < l.length by omega)
    show (l.getD j Blk.z).pos < a
    omega) h6]
theorem ins_len {l : List Blk} {b : Blk} {q : Nat} (hq : q ≤ l.length) : (l.take q ++ b :: l.drop q).length = l.length + 1 := by
  simp only [List.length_append, List.length_cons, List.length_take, List.length_drop]; omega
end Go.Proofs.Ytfknhbgghpbkpaa
