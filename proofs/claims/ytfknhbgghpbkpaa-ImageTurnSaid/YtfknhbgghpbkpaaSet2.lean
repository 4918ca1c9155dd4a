/- Stores into rows of the call's own, as operations; a row of functions told cell by cell. -/
import Derived.Test.YtfknhbgghpbkpaaSet
namespace Go.Proofs.Ytfknhbgghpbkpaa
open Go.RowKit Cal Go.Proofs.YtfknhbgghpbkpaaW.PrintWords
namespace Cal
section
variable {dm : List Deferred} {P : Program} {N : Nat} {Q : Exit → Act → World → Prop} {k : List It} {fr fr' : Fr} {wr w : World} {L : List Ent} {all : Array Oper} {i : Nat} {o : Oper} {α : Type} {d : Kd α} {e : TypeId} {xs ys : List α} {S : World → Prop} {ds : List Nat} {fuel : Nat} {listed : Array Bool}
theorem add0 (g n : Nat) : (Addr.add ⟨g, 0, none⟩ n) = ⟨g, n, none⟩ := by simp [Addr.add]; omega
theorem there_of {g off m : Nat} {cur : Array Value} (hg : w.heap[g]? = some (.cells cur e (0, 0))) (h : off + m ≤ cur.size) : w.there g off m := fun j hj => ⟨by rw [blk_cell hg, Array.getElem?_eq_getElem (by omega)]; rfl, blk_frozen hg _⟩
/-- A whole element is stored. -/
theorem rset {ad : Addr} {n c : Nat} {x : α} {vs : Array Value} (M : Mem wr w (row d e (.slice (some ad) n c) xs :: owns d 0 x vs.toList :: L)) (z : α) (q : Nat) (hq : q < xs.length)
    (h : ∀ w', Mem wr w' (row d e (.slice (some ad) n c) (xs.set q x) :: L) → TO dm P N Q all k fr w' (i + 1)) {ty : TypeId} {a y : Operand}
    (ho : all.toList[i]? = some o := by rfl) (hd : o.dst = none := by rfl) (hop : o.op = .store ty a y := by rfl) (hw : ∀ j, Region.wanted o (yl N all j fr) = true := by intro j; rfl)
    (hx : ∀ j, ev j fr a = .pointer (some (ad.add (q * d.sz))) := by intro j; rfl) (hy : ∀ j, ev j fr y = .agg vs := by intro j; rfl) (hi : (P.info? ty).map (·.size) = some vs.size := by kernel_rfl) : TO dm P N Q all k fr w i := by
  have hK := M.owns_K 1 rfl
  have hl : vs.toList.length = d.sz := d.K_len hK
  obtain ⟨g, cur, rfl, hg, hsz, M'⟩ := M.rowset z q 0 vs.toList hq (by omega) (fun cs hc => by rw [List.take_zero, List.nil_append, List.drop_eq_nil_of_le (by rw [d.K_len hc]; omega), List.append_nil])
  have h1 : vs.all (·.oneCell') = true := by rw [Array.all_eq_true']; exact fun u hu => d.K_one hK u (by simpa using hu)
  have hr := run_storeAt_mid (P := P) w g (q * d.sz) ty vs (there_of hg (by rw [← Array.length_toList, hl]; omega)) hi h1
  rw [← add0] at hr
  exact to_op_skip ho hw (fun j => exec_store hop (hx j) (hy j) hr) hd (h _ M')
theorem te_le {i : Nat} {o : Oper} (dst : Nat) (v : Value) {a : Addr} (hv : w.cell? a = some v) (h : TY dm P N Q all S ds fuel (listed.setIfInBounds i true) ((dst, v) :: fr) w) {ty : TypeId} {x : Operand}
    (ho : all[i]? = some o := by rfl) (hd : o.dst = some dst := by rfl) (hop : o.op = .load ty x := by rfl) (hw : ∀ j, Region.wanted o (yl N all j fr) = true := by intro j; rfl)
    (hx : ∀ j, ev j fr x = .pointer (some a) := by intro j; rfl) (hg : (isAgg ty).run P w = .ok false w := by kernel_rfl) (hN : Nat.blt dst N = true := by rfl) : TE dm P N Q all S ds fuel listed fr w i :=
  te_op dst v (fun j => exec_load hop (hx j) (run_load_one hg hv)) (fun _ h => h) h ho hd hw hN
/-- One cell of an element is stored, in a region that draws. -/
theorem te_rset1 {i : Nat} {o : Oper} {ad : Addr} {n c : Nat} {x : α} {v : Value} {cs' : List Value} (M : Mem wr w (row d e (.slice (some ad) n c) xs :: owns d 0 x cs' :: L)) (z : α) (q j : Nat) (hq : q < xs.length) (hj : j + 1 ≤ d.sz)
    (hK : ∀ cs, d.K w (xs.getD q z) cs → cs.take j ++ [v] ++ cs.drop (j + 1) = cs')
    (hSk : ∀ w', Mem wr w' (row d e (.slice (some ad) n c) (xs.set q x) :: L) → i ∉ ds → S w → S w')
    (h : ∀ w', Mem wr w' (row d e (.slice (some ad) n c) (xs.set q x) :: L) → TY dm P N Q all S ds fuel (listed.setIfInBounds i true) fr w') {ty : TypeId} {a y : Operand}
    (ho : all[i]? = some o := by rfl) (hd : o.dst = none := by rfl) (hop : o.op = .store ty a y := by rfl) (hw : ∀ j, Region.wanted o (yl N all j fr) = true := by intro j; rfl)
    (hx : ∀ j', ev j' fr a = .pointer (some ((ad.add (q * d.sz)).add j)) := by intro j; rfl) (hy : ∀ j, ev j fr y = v := by intro j; rfl) (hi : (P.info? ty).map (·.size) = some 1 := by kernel_rfl) (h1 : v.oneCell' = true := by rfl) : TE dm P N Q all S ds fuel listed fr w i := by
  obtain ⟨g, cur, rfl, hg, hsz, M'⟩ := M.rowset z q j [v] hq hj hK
  have hlt : q * d.sz + j < cur.size := by omega
  have hr := run_store_one (P := P) (w := w) (ty := ty) (a := ⟨g, q * d.sz + j, none⟩) (v := v) hi h1 ((blk_cell hg _).trans (Array.getElem?_eq_getElem hlt)) (blk_frozen hg _)
  have ha : (Addr.add ⟨g, 0, none⟩ (q * d.sz)).add j = ⟨g, q * d.sz + j, none⟩ := by rw [add_add, add0]
  rw [← ha] at hr
  refine te_skip (fun j' => exec_store hop (hx j') (hy j') hr) (hSk _ ?_) (h _ ?_) ho hd hw <;> (rw [ha]; exact M')
end
end Cal
/-- A row of functions as cells alone. -/
def kRaw : Kd (Int × Option Addr × Nat × Nat) where
  sz := 2
  E := []
  K := fun _ x cs => cs = MixE.out x
  M := fun _ _ _ x cs => cs = MixE.out x
  K_len := fun h => by rw [h]; rfl
  K_one := fun h u hu => by
    rw [h] at hu
    simp only [MixE.out, List.mem_cons, List.not_mem_nil, or_false] at hu
    rcases hu with rfl | rfl <;> rfl
  K_below := fun _ h => h
  K_of_M := fun h => h
  M_mono := fun _ h => h
  M_bound := fun h => h
  M_move := fun _ h => h
  M_lower := fun _ h => h
theorem flatRaw : Flat kRaw := fun _ _ _ h _ _ => h
def rawZ : Int × Option Addr × Nat × Nat := (0, none, 0, 0)
theorem raw_of {w : World} {A : Option Addr} {p : List Fn} (h : kFn.C w A p.length p) : ∃ vs : List (Int × Option Addr × Nat × Nat), vs.length = p.length ∧ kRaw.C w A vs.length vs ∧ ∀ j, j < p.length → MixR w (.inr (vs.getD j rawZ)) (p.getD j Fn.z) := by
  have hp : ∀ j, j < p.length → ∃ ad v, A = some ad ∧ MixR w (.inr v) (p.getD j Fn.z) ∧ ∀ i u, (MixE.out v)[i]? = some u → w.cell? (ad.add (j * 2 + i)) = some u := by
    intro j hj
    obtain ⟨ad, e, hc⟩ := h.2.2 (by omega)
    obtain ⟨cs, h1, h2, h3⟩ := hc j (p.getD j Fn.z) (by simp [hj])
    obtain ⟨A1, c1, rfl, hl, hC⟩ := kFn_open h2
    exact ⟨ad, ((p.getD j Fn.z).args, A1, (p.getD j Fn.z).code.length, c1), e, ⟨rfl, rfl, hl, hC⟩, h3⟩
  have key : ∀ k, k ≤ p.length → ∃ vs : List (Int × Option Addr × Nat × Nat), vs.length = k ∧ ∀ j, j < k → ∃ ad, A = some ad ∧ MixR w (.inr (vs.getD j rawZ)) (p.getD j Fn.z) ∧ ∀ i u, (MixE.out (vs.getD j rawZ))[i]? = some u → w.cell? (ad.add (j * 2 + i)) = some u := by
    intro k
    induction k with
    | zero => exact fun _ => ⟨[], rfl, fun j hj => absurd hj (Nat.not_lt_zero _)⟩
    | succ k ih =>
      intro hk
      obtain ⟨vs, hl, hv⟩ := ih (by omega)
      obtain ⟨ad, v, h1, h2, h3⟩ := hp k (by omega)
      refine ⟨vs ++ [v], by simp [hl], fun j hj => ?_⟩
      rcases Nat.lt_or_ge j k with hlt | hge
      · have e : (vs ++ [v]).getD j rawZ = vs.getD j rawZ := by simp [List.getElem?_append_left, hl, hlt]
        rw [e]; exact hv j hlt
      · obtain rfl : j = k := by omega
        have e : (vs ++ [v]).getD j rawZ = v := by simp [← hl]
        rw [e]; exact ⟨ad, h1, h2, h3⟩
  obtain ⟨vs, hl, hv⟩ := key p.length (Nat.le_refl _)
  refine ⟨vs, hl, ⟨rfl, by have := h.2.1; omega, fun h0 => ?_⟩, fun j hj => (hv j hj).choose_spec.2.1⟩
  obtain ⟨ad, e, _⟩ := hv 0 (by omega)
  refine ⟨ad, e, fun j q hj => ?_⟩
  obtain ⟨hlt, hq⟩ := List.getElem?_eq_some_iff.1 hj
  obtain ⟨ad', e', _, h3⟩ := hv j (by omega)
  obtain rfl : ad = ad' := Option.some.inj (e.symm.trans e')
  have eq1 : vs.getD j rawZ = q := by simp [hlt, hq]
  rw [eq1] at h3
  exact ⟨MixE.out q, rfl, rfl, h3⟩
theorem raw_row {e : TypeId} {v : Value} {vs : List (Int × Option Addr × Nat × Nat)} {wr w : World} {L : List Ent} (M : Mem wr w (row kRaw e v vs :: L)) : Mem wr w (row kMix e v (vs.map Sum.inr) :: L) :=
  M.imp fun S _ h => by
    obtain ⟨h0, inner, ho, hr⟩ := h
    refine ⟨h0, inner, by rw [List.length_map]; exact ho, ?_⟩
    refine ⟨by rw [List.length_map]; exact hr.1, fun j p hj => ?_⟩
    rw [List.getElem?_map] at hj
    cases hq : vs[j]? with
    | none => rw [hq] at hj; cases hj
    | some f =>
      rw [hq] at hj
      simp only [Option.map_some, Option.some.injEq] at hj
      subst hj
      exact hr.2 j f hq
/-- Where each has its code, it is a row of functions. -/
theorem mix_all {e : TypeId} {v : Value} {fs : List Fn} {wr w : World} {L : List Ent} (M : Mem wr w (row kMix e v (fs.map Sum.inl) :: L)) : Mem wr w (row kFn e v fs :: L) :=
  M.imp fun S _ h => by
    obtain ⟨h0, inner, ho, hr⟩ := h
    refine ⟨h0, inner, by rw [List.length_map] at ho; exact ho, ?_⟩
    refine ⟨by have := hr.1; rw [List.length_map] at this; exact this, fun j p hj => ?_⟩
    exact hr.2 j (.inl p) (by rw [List.getElem?_map, hj]; rfl)
/-- Of the functions fs the first k have their code in the row. -/
def mixAt (fs : List Fn) (vs : List (Int × Option Addr × Nat × Nat)) (k : Nat) : List MixE := (fs.take k).map Sum.inl ++ (vs.drop k).map Sum.inr
theorem mixAt_len {fs : List Fn} {vs : List (Int × Option Addr × Nat × Nat)} (h : vs.length = fs.length) {k : Nat} (hk : k ≤ fs.length) : (mixAt fs vs k).length = fs.length := by
  simp only [mixAt, List.length_append, List.length_map, List.length_take, List.length_drop]; omega
theorem mixAt_get {fs : List Fn} {vs : List (Int × Option Addr × Nat × Nat)} (h : vs.length = fs.length) {k : Nat} (hk : k < fs.length) : (mixAt fs vs k).getD k MixE.z = .inr (vs.getD k rawZ) := by
  have hl : ((fs.take k).map (Sum.inl : Fn → MixE)).length = k := by rw [List.length_map, List.length_take]; omega
  unfold mixAt
  rw [List.getD_eq_getElem?_getD, List.getElem?_append_right (by omega), hl, Nat.sub_self, List.getElem?_map, List.getElem?_drop, Nat.add_zero]
  simp [List.getElem?_eq_getElem (show k < vs.length by omega)]
theorem mixAt_set {fs : List Fn} {vs : List (Int × Option Addr × Nat × Nat)} (h : vs.length = fs.length) {k : Nat} (hk : k < fs.length) : (mixAt fs vs k).set k (.inl (fs.getD k Fn.z)) = mixAt fs vs (k + 1) := by
  have hl : ((fs.take k).map (Sum.inl : Fn → MixE)).length = k := by rw [List.length_map, List.length_take]; omega
  have e : fs.getD k Fn.z = fs[k] := by simp [hk]
  unfold mixAt
  rw [List.set_append_right _ _ (by omega), hl, Nat.sub_self, e, List.take_succ_eq_append_getElem hk, List.map_append, List.append_assoc]
  congr 1
  rw [List.drop_eq_getElem_cons (show k < vs.length by omega)]
  rfl
theorem mixAt_zero (fs : List Fn) (vs : List (Int × Option Addr × Nat × Nat)) : mixAt fs vs 0 = vs.map Sum.inr := by simp [mixAt]
theorem mixAt_all {fs : List Fn} {vs : List (Int × Option Addr × Nat × Nat)} (h : vs.length = fs.length) {k : Nat} (hk : fs.length ≤ k) : mixAt fs vs k = fs.map Sum.inl := by
  unfold mixAt
  rw [List.take_of_length_le hk, List.drop_eq_nil_of_le (by omega)]
  simp
theorem mixR_set {w : World} {p : List Fn} {vs : List (Int × Option Addr × Nat × Nat)} {f : Fn} {v : Int × Option Addr × Nat × Nat} {i : Nat} (hl : vs.length = p.length) (h : ∀ j, j < p.length → MixR w (.inr (vs.getD j rawZ)) (p.getD j Fn.z)) (hf : MixR w (.inr v) f) :
    ∀ j, j < (p.set i f).length → MixR w (.inr ((vs.set i v).getD j rawZ)) ((p.set i f).getD j Fn.z) := by
  intro j hj
  rw [List.length_set] at hj
  by_cases hij : i = j
  · subst hij
    have e1 : (vs.set i v).getD i rawZ = v := by simp [hl, hj]
    have e2 : (p.set i f).getD i Fn.z = f := by simp [hj]
    rw [e1, e2]; exact hf
  · have e1 : (vs.set i v).getD j rawZ = vs.getD j rawZ := by simp [List.getElem?_set_ne hij]
    have e2 : (p.set i f).getD j Fn.z = p.getD j Fn.z := by simp [List.getElem?_set_ne hij]
    rw [e1, e2]; exact h j hj
/-- What Swap comes to. -/
def swapOf (p : List Fn) (i : Int) (f : Fn) : List Fn × Int :=
  if progMay p = false ∨ fnMay ⟨0, f.code⟩ = false then ([], 1) else if i < 0 ∨ (p.length : Int) ≤ i then ([], 3) else if (p.getD i.toNat Fn.z).args ≠ f.args then ([], 9) else (p.set i.toNat f, 0)
end Go.Proofs.Ytfknhbgghpbkpaa
