/- Elements that hold a row each (head cells, and a slice behind them): told cell by cell, the rows inside apart; what is read alone. -/
import Derived.Test.YtfknhbgghpbkpaaApart
namespace Go.Proofs.Ytfknhbgghpbkpaa
open Go.RowKit Cal Go.Proofs.YtfknhbgghpbkpaaW.PrintWords
abbrev RawG := List Value × Option Addr × Nat × Nat
def RawG.out (v : RawG) : List Value := v.1 ++ [.slice v.2.1 v.2.2.1 v.2.2.2]
def rawG0 : RawG := ([], none, 0, 0)
/-- A row of such elements as cells alone. -/
def kRawG (h : Nat) : Kd RawG where
  sz := h + 1
  E := []
  K := fun _ x cs => cs = RawG.out x ∧ x.1.length = h ∧ ∀ u ∈ x.1, u.oneCell' = true
  M := fun _ _ _ x cs => cs = RawG.out x ∧ x.1.length = h ∧ ∀ u ∈ x.1, u.oneCell' = true
  K_len := fun ⟨h1, h2, _⟩ => by rw [h1]; simp [RawG.out, h2]
  K_one := fun ⟨h1, _, h3⟩ u hu => by
    rw [h1, RawG.out] at hu
    rcases List.mem_append.1 hu with h | h
    · exact h3 u h
    · rw [List.mem_singleton.1 h]; rfl
  K_below := fun _ h => h
  K_of_M := fun h => h
  M_mono := fun _ h => h
  M_bound := fun h => h
  M_move := fun _ h => h
  M_lower := fun _ h => h
theorem flatRawG (h : Nat) : Flat (kRawG h) := fun _ _ _ h _ _ => h
theorem repRawG (h : Nat) : Reps (fun x c => ∀ w' ok, (kRawG h).M w' 0 ok x c) (kRawG h).sz ([] : List RawG) [] := Reps.none _ _
/-- The shape of an element. -/
structure Shp (α β : Type) where
  d : Kd α
  dI : Kd β
  eI : TypeId
  z : α
  h : Nat
  hd : α → List Value
  inn : α → List β
  hdl : ∀ x, (hd x).length = h
  hd1 : ∀ x, ∀ u ∈ hd x, u.oneCell' = true
  sz : d.sz = h + 1
  opn : ∀ {w : World} {x cs}, d.K w x cs → ∃ A c, cs = hd x ++ [.slice A (inn x).length c] ∧ (inn x).length ≤ c ∧ dI.C w A (inn x).length (inn x)
  mak : ∀ {w : World} {x A c}, (inn x).length ≤ c → dI.C w A (inn x).length (inn x) → d.K w x (hd x ++ [.slice A (inn x).length c])
  flat : Flat dI
section
variable {α β : Type} (S : Shp α β)
/-- A raw element tells an element. -/
def RawR (w : World) (v : RawG) (x : α) : Prop := v.1 = S.hd x ∧ v.2.2.1 = (S.inn x).length ∧ (S.inn x).length ≤ v.2.2.2 ∧ S.dI.C w v.2.1 (S.inn x).length (S.inn x)
def codeG (v : RawG) (f : α) : Ent := row S.dI S.eI (.slice v.2.1 (S.inn f).length v.2.2.2) (S.inn f)
def codesG : List RawG → List α → List Ent
  | v :: vs, f :: fs => codeG S v f :: codesG vs fs
  | _, _ => []
def rawGOk (vs : List RawG) (fs : List α) : Prop := vs.length = fs.length ∧ ∀ j, j < fs.length → (vs.getD j rawG0).1 = S.hd (fs.getD j S.z) ∧ (vs.getD j rawG0).2.2.1 = (S.inn (fs.getD j S.z)).length
end
section
variable {α β : Type} {S : Shp α β} {wr w : World} {L : List Ent}
theorem RawR.K {v : RawG} {x : α} (h : RawR S w v x) : S.d.K w x (RawG.out v) := by
  obtain ⟨h1, h2, h3, h4⟩ := h
  rw [RawG.out, h1, h2]; exact S.mak h3 h4
theorem raw_ofG {A : Option Addr} {p : List α} (h : S.d.C w A p.length p) : ∃ vs : List RawG, vs.length = p.length ∧ (kRawG S.h).C w A vs.length vs ∧ ∀ j, j < p.length → RawR S w (vs.getD j rawG0) (p.getD j S.z) := by
  have hp : ∀ j, j < p.length → ∃ ad v, A = some ad ∧ RawR S w v (p.getD j S.z) ∧ ∀ i u, (RawG.out v)[i]? = some u → w.cell? (ad.add (j * S.d.sz + i)) = some u := by
    intro j hj
    obtain ⟨ad, e, hc⟩ := h.2.2 (by omega)
    obtain ⟨cs, h1, h2, h3⟩ := hc j (p.getD j S.z) (by simp [hj])
    obtain ⟨A1, c1, rfl, hl, hC⟩ := S.opn h2
    exact ⟨ad, (S.hd (p.getD j S.z), A1, (S.inn (p.getD j S.z)).length, c1), e, ⟨rfl, rfl, hl, hC⟩, h3⟩
  have key : ∀ k, k ≤ p.length → ∃ vs : List RawG, vs.length = k ∧ ∀ j, j < k → ∃ ad, A = some ad ∧ RawR S w (vs.getD j rawG0) (p.getD j S.z) ∧ ∀ i u, (RawG.out (vs.getD j rawG0))[i]? = some u → w.cell? (ad.add (j * S.d.sz + i)) = some u := by
    intro k
    induction k with
    | zero => exact fun _ => ⟨[], rfl, fun j hj => absurd hj (Nat.not_lt_zero _)⟩
    | succ k ih =>
      intro hk
      obtain ⟨vs, hl, hv⟩ := ih (by omega)
      obtain ⟨ad, v, h1, h2, h3⟩ := hp k (by omega)
      refine ⟨vs ++ [v], by simp [hl], fun j hj => ?_⟩
      rcases Nat.lt_or_ge j k with hlt | hge
      · have e : (vs ++ [v]).getD j rawG0 = vs.getD j rawG0 := by simp [List.getElem?_append_left, hl, hlt]
        rw [e]; exact hv j hlt
      · obtain rfl : j = k := by omega
        have e : (vs ++ [v]).getD j rawG0 = v := by simp [← hl]
        rw [e]; exact ⟨ad, h1, h2, h3⟩
  obtain ⟨vs, hl, hv⟩ := key p.length (Nat.le_refl _)
  refine ⟨vs, hl, ⟨rfl, by have := h.2.1; omega, fun h0 => ?_⟩, fun j hj => (hv j hj).choose_spec.2.1⟩
  obtain ⟨ad, e, _⟩ := hv 0 (by omega)
  refine ⟨ad, e, fun j q hj => ?_⟩
  obtain ⟨hlt, hq⟩ := List.getElem?_eq_some_iff.1 hj
  obtain ⟨ad', e', hR, h3⟩ := hv j (by omega)
  obtain rfl : ad = ad' := Option.some.inj (e.symm.trans e')
  have eq1 : vs.getD j rawG0 = q := by simp [hlt, hq]
  rw [eq1] at h3 hR
  have h1 : q.1.length = S.h := by rw [hR.1]; exact S.hdl _
  refine ⟨RawG.out q, by simp [RawG.out, h1, kRawG], ⟨rfl, h1, fun u hu => S.hd1 _ u (by rw [← hR.1]; exact hu)⟩, ?_⟩
  have : (kRawG S.h).sz = S.d.sz := S.sz.symm
  rw [this]; exact h3
theorem raw_CG {A : Option Addr} {vs : List RawG} {fs : List α} (h : (kRawG S.h).C w A vs.length vs) (hl : vs.length = fs.length) (hr : ∀ j, j < fs.length → RawR S w (vs.getD j rawG0) (fs.getD j S.z)) : S.d.C w A fs.length fs := by
  refine ⟨rfl, by have := h.2.1; omega, fun hp => ?_⟩
  obtain ⟨ad, e, hc⟩ := h.2.2 (by omega)
  refine ⟨ad, e, fun j g hj => ?_⟩
  obtain ⟨hlt, hg⟩ := List.getElem?_eq_some_iff.1 hj
  have hx : vs[j]? = some vs[j] := List.getElem?_eq_getElem (by omega)
  obtain ⟨cs, h1, h2, h3⟩ := hc j _ hx
  have hR := hr j hlt
  rw [show fs.getD j S.z = g by simp [hlt, hg], show vs.getD j rawG0 = vs[j] by simp [show j < vs.length by omega]] at hR
  obtain ⟨rfl, _, _⟩ := h2
  have e2 : (kRawG S.h).sz = S.d.sz := S.sz.symm
  rw [e2] at h1 h3
  exact ⟨RawG.out vs[j], h1, hR.K, h3⟩
theorem codesG_snoc : ∀ {vs : List RawG} {fs : List α} (v : RawG) (f : α), vs.length = fs.length → codesG S (vs ++ [v]) (fs ++ [f]) = codesG S vs fs ++ [codeG S v f]
  | [], [], _, _, _ => rfl
  | _ :: vs, _ :: fs, v, f, h => by
    simp only [List.cons_append, codesG]
    rw [codesG_snoc v f (by simpa using h)]
theorem codesG_app : ∀ {vs us : List RawG} {fs gs : List α}, vs.length = fs.length → codesG S (vs ++ us) (fs ++ gs) = codesG S vs fs ++ codesG S us gs
  | [], us, [], gs, _ => rfl
  | _ :: vs, us, _ :: fs, gs, h => by
    simp only [List.cons_append, codesG]
    rw [codesG_app (by simpa using h)]
theorem codesG_len : ∀ {vs : List RawG} {fs : List α}, vs.length = fs.length → (codesG S vs fs).length = fs.length
  | [], [], _ => rfl
  | _ :: vs, _ :: fs, h => by
    simp only [codesG, List.length_cons]
    rw [codesG_len (by simpa using h)]
theorem codesG_at : ∀ {vs : List RawG} {fs : List α} {j : Nat}, vs.length = fs.length → j < fs.length → (codesG S vs fs)[j]? = some (codeG S (vs.getD j rawG0) (fs.getD j S.z))
  | [], [], _, _, h => by simp at h
  | v :: vs, f :: fs, 0, _, _ => rfl
  | v :: vs, f :: fs, j + 1, hl, h => by
    simp only [codesG, List.getElem?_cons_succ, List.getD_cons_succ]
    exact codesG_at (by simpa using hl) (by simpa using h)
theorem codesG_set : ∀ {vs : List RawG} {fs : List α} {j : Nat} (f : α), vs.length = fs.length → (codesG S vs fs).set j (codeG S (vs.getD j rawG0) f) = codesG S vs (fs.set j f)
  | [], [], _, _, _ => rfl
  | v :: vs, g :: fs, 0, _, _ => rfl
  | v :: vs, g :: fs, j + 1, f, hl => by
    simp only [codesG, List.set_cons_succ, List.getD_cons_succ]
    rw [codesG_set f (by simpa using hl)]
theorem codesG_erase : ∀ {vs : List RawG} {fs : List α} (j : Nat), vs.length = fs.length → (codesG S vs fs).eraseIdx j = codesG S (vs.eraseIdx j) (fs.eraseIdx j)
  | [], [], _, _ => rfl
  | v :: vs, g :: fs, 0, _ => rfl
  | v :: vs, g :: fs, j + 1, hl => by
    simp only [codesG, List.eraseIdx_cons_succ]
    rw [codesG_erase j (by simpa using hl)]
theorem codesG_more {vs : List RawG} {fs : List α} {v : RawG} {f : α} (hl : vs.length = fs.length) (M : Mem wr w (star (codesG S vs fs) :: codeG S v f :: L)) : Mem wr w (star (codesG S (vs ++ [v]) (fs ++ [f])) :: L) := by
  have h := M.unstar
  rw [codesG_snoc v f hl]
  exact Mem.star (A := codesG S vs fs ++ [codeG S v f]) (by simpa using h)
/-- One is put in. -/
theorem codesG_ins {vs : List RawG} {fs : List α} {v : RawG} {f : α} (i : Nat) (hl : vs.length = fs.length) (M : Mem wr w (codeG S v f :: star (codesG S vs fs) :: L)) : Mem wr w (star (codesG S (vs.take i ++ v :: vs.drop i) (fs.take i ++ f :: fs.drop i)) :: L) := by
  have e1 : (vs.take i).length = (fs.take i).length := by rw [List.length_take, List.length_take, hl]
  have e2 : codesG S vs fs = codesG S (vs.take i) (fs.take i) ++ codesG S (vs.drop i) (fs.drop i) := by
    rw [← codesG_app e1, List.take_append_drop, List.take_append_drop]
  have h := (M.swap).unstar
  refine Mem.star (A := codesG S (vs.take i ++ v :: vs.drop i) (fs.take i ++ f :: fs.drop i)) ?_
  rw [codesG_app e1]
  have hlen := codesG_len (S := S) e1
  show Mem wr w ((codesG S (vs.take i) (fs.take i) ++ (codeG S v f :: codesG S (vs.drop i) (fs.drop i))) ++ L)
  have hp : (codesG S vs fs ++ codeG S v f :: L)[(codesG S vs fs).length]? = some (codeG S v f) := by simp
  have h2 := h.front _ hp
  rw [List.eraseIdx_append_of_length_le (Nat.le_refl _), Nat.sub_self, List.eraseIdx_cons_zero] at h2
  refine Mem.back (p := (codesG S (vs.take i) (fs.take i)).length) (e := codeG S v f) (by simp) ?_
  rw [List.append_assoc, List.eraseIdx_append_of_length_le (Nat.le_refl _), Nat.sub_self, List.cons_append, List.eraseIdx_cons_zero, ← List.append_assoc, ← e2]
  exact h2
/-- One is let go. -/
theorem codesG_del {vs : List RawG} {fs : List α} (i : Nat) (hl : vs.length = fs.length) (M : Mem wr w (star (codesG S vs fs) :: L)) : Mem wr w (star (codesG S (vs.eraseIdx i) (fs.eraseIdx i)) :: L) := by
  by_cases hi : i < (codesG S vs fs).length
  · have h := M.unstar.drop i
    rw [List.eraseIdx_append_of_lt_length hi, codesG_erase i hl] at h
    exact Mem.star h
  · rw [← codesG_erase i hl, List.eraseIdx_of_length_le (by omega)]
    exact M
theorem codeG_C {vs : List RawG} {fs : List α} {j : Nat} (hl : vs.length = fs.length) (hj : j < fs.length) (M : Mem wr w (star (codesG S vs fs) :: L)) :
    S.dI.C w (vs.getD j rawG0).2.1 (S.inn (fs.getD j S.z)).length (S.inn (fs.getD j S.z)) ∧ (S.inn (fs.getD j S.z)).length ≤ (vs.getD j rawG0).2.2.2 := by
  have h := M.unstar
  have hp : (codesG S vs fs ++ L)[j]? = some (row S.dI S.eI (.slice (vs.getD j rawG0).2.1 (S.inn (fs.getD j S.z)).length (vs.getD j rawG0).2.2.2) (S.inn (fs.getD j S.z))) := by
    rw [List.getElem?_append_left (by rw [codesG_len hl]; exact hj)]; exact codesG_at hl hj
  exact ⟨h.row_C j hp, h.row_cap j hp⟩
/-- An element of the j-th inner row is written. -/
theorem codeG_set {vs : List RawG} {fs : List α} {j k : Nat} {ad : Addr} {x : β} (f' : α) (zi : β) (us : List Value) (hl : vs.length = fs.length) (hj : j < fs.length) (hk : k < (S.inn (fs.getD j S.z)).length) (ha : (vs.getD j rawG0).2.1 = some ad)
    (hf : S.inn f' = (S.inn (fs.getD j S.z)).set k x) (hx : ∀ w' ok, S.dI.M w' 0 ok x us) (M : Mem wr w (star (codesG S vs fs) :: L)) :
    ∃ g cur, ad = ⟨g, 0, none⟩ ∧ w.heap[g]? = some (.cells cur S.eI (0, 0)) ∧ k * S.dI.sz + S.dI.sz ≤ cur.size ∧ Mem wr (w.setCells g (k * S.dI.sz) us) (star (codesG S vs (fs.set j f')) :: L) := by
  have h := M.unstar
  have hjc : j < (codesG S vs fs).length := by rw [codesG_len hl]; exact hj
  have hp : (codesG S vs fs ++ L)[j]? = some (codeG S (vs.getD j rawG0) (fs.getD j S.z)) := by
    rw [List.getElem?_append_left hjc]; exact codesG_at hl hj
  have h1 := h.front j hp
  have h2 : Mem wr w (row S.dI S.eI (.slice (some ad) (S.inn (fs.getD j S.z)).length (vs.getD j rawG0).2.2.2) (S.inn (fs.getD j S.z)) :: (codesG S vs fs ++ L).eraseIdx j) := by
    rw [← ha]; exact h1
  have hul : us.length = S.dI.sz := S.dI.K_len (S.dI.K_of_M (hx w (fun _ => True)))
  have h3 := (h2.flat (d := S.dI) (x := x) (cs := us) (hx _)).swap
  obtain ⟨g, cur, e, hg, hs, h4⟩ := h3.rowset zi k 0 us hk (by omega) (fun cs hc => by
    rw [List.take_zero, List.nil_append, List.drop_eq_nil_of_le (by rw [S.dI.K_len hc]; omega), List.append_nil])
  refine ⟨g, cur, e, hg, hs, ?_⟩
  have h5 : Mem wr (w.setCells g (k * S.dI.sz) us) (codeG S (vs.getD j rawG0) f' :: ((codesG S vs fs ++ L).set j (codeG S (vs.getD j rawG0) f')).eraseIdx j) := by
    rw [erase_set]
    have hcl : (S.inn f').length = (S.inn (fs.getD j S.z)).length := by rw [hf, List.length_set]
    unfold codeG
    rw [ha, hcl, hf]
    exact h4
  have h6 := Mem.back (p := j) (by rw [List.getElem?_set_self (by rw [List.length_append]; omega)]) h5
  rw [List.set_append_left _ _ hjc, codesG_set _ hl] at h6
  exact Mem.star h6
theorem rawGOk_nil : rawGOk S [] [] := ⟨rfl, fun j h => absurd h (Nat.not_lt_zero _)⟩
theorem rawGOk_snoc {vs : List RawG} {fs : List α} {v : RawG} {f : α} (h : rawGOk S vs fs) (h1 : v.1 = S.hd f) (h2 : v.2.2.1 = (S.inn f).length) : rawGOk S (vs ++ [v]) (fs ++ [f]) := by
  refine ⟨by simp [h.1], fun j hj => ?_⟩
  have hl := h.1
  rcases Nat.lt_or_ge j fs.length with hlt | hge
  · have e1 : (vs ++ [v]).getD j rawG0 = vs.getD j rawG0 := by simp [List.getElem?_append_left, hl, hlt]
    have e2 : (fs ++ [f]).getD j S.z = fs.getD j S.z := by simp [List.getElem?_append_left, hlt]
    rw [e1, e2]; exact h.2 j hlt
  · have hj' : j = fs.length := by simp only [List.length_append, List.length_singleton] at hj; omega
    subst hj'
    have e1 : (vs ++ [v]).getD fs.length rawG0 = v := by simp [← hl]
    have e2 : (fs ++ [f]).getD fs.length S.z = f := by simp
    rw [e1, e2]; exact ⟨h1, h2⟩
theorem rawGOk_set {vs : List RawG} {fs : List α} {i : Nat} {f : α} (h : rawGOk S vs fs) (h1 : S.hd (fs.getD i S.z) = S.hd f) (h2 : (S.inn (fs.getD i S.z)).length = (S.inn f).length) : rawGOk S vs (fs.set i f) := by
  refine ⟨by rw [List.length_set]; exact h.1, fun j hj => ?_⟩
  rw [List.length_set] at hj
  have h0 := h.2 j hj
  by_cases hij : i = j
  · subst hij
    have e : (fs.set i f).getD i S.z = f := by simp [hj]
    rw [e, ← h1, ← h2]; exact h0
  · have e : (fs.set i f).getD j S.z = fs.getD j S.z := by simp [List.getElem?_set_ne hij]
    rw [e]; exact h0
theorem rawGOk_iff {vs : List RawG} {fs : List α} : rawGOk S vs fs ↔ vs.map (fun v => (v.1, v.2.2.1)) = fs.map (fun f => (S.hd f, (S.inn f).length)) := by
  constructor
  · rintro ⟨hl, h⟩
    apply List.ext_getElem (by simp [hl])
    intro j h1 h2
    simp only [List.length_map] at h1 h2
    have := h j h2
    simp only [List.getD_eq_getElem?_getD, List.getElem?_eq_getElem h1, List.getElem?_eq_getElem h2, Option.getD_some] at this
    simp only [List.getElem_map, this.1, this.2]
  · intro h
    have hl : vs.length = fs.length := by simpa using congrArg List.length h
    refine ⟨hl, fun j hj => ?_⟩
    have e : (vs.map (fun v => (v.1, v.2.2.1)))[j]? = (fs.map (fun f => (S.hd f, (S.inn f).length)))[j]? := by rw [h]
    simp only [List.getElem?_map, List.getElem?_eq_getElem (show j < vs.length by omega), List.getElem?_eq_getElem hj, Option.map_some, Option.some.injEq, Prod.mk.injEq] at e
    simpa [List.getD_eq_getElem?_getD, List.getElem?_eq_getElem (show j < vs.length by omega), List.getElem?_eq_getElem hj] using e
theorem rawGOk_ins {vs : List RawG} {fs : List α} {v : RawG} {f : α} (i : Nat) (h : rawGOk S vs fs) (h1 : v.1 = S.hd f) (h2 : v.2.2.1 = (S.inn f).length) : rawGOk S (vs.take i ++ v :: vs.drop i) (fs.take i ++ f :: fs.drop i) := by
  rw [rawGOk_iff] at h ⊢
  simp only [List.map_append, List.map_cons, List.map_take, List.map_drop, h, h1, h2]
theorem map_del {α β : Type} (f : α → β) : ∀ (l : List α) (i : Nat), (l.eraseIdx i).map f = (l.map f).eraseIdx i
  | [], _ => rfl
  | _ :: _, 0 => rfl
  | x :: l, i + 1 => by simp only [List.eraseIdx_cons_succ, List.map_cons, map_del f l i]
theorem rawGOk_del {vs : List RawG} {fs : List α} (i : Nat) (h : rawGOk S vs fs) : rawGOk S (vs.eraseIdx i) (fs.eraseIdx i) := by
  rw [rawGOk_iff] at h ⊢
  rw [map_del, map_del, h]
/-- Such a row and its rows inside read as elements. -/
theorem apartG_C {e : TypeId} {A : Option Addr} {n c : Nat} {vs : List RawG} {fs : List α} (h : rawGOk S vs fs) (M : Mem wr w (row (kRawG S.h) e (.slice A n c) vs :: star (codesG S vs fs) :: L)) : S.d.C w A fs.length fs :=
  raw_CG (M.row_C 0 rfl) h.1 fun j hj => by
    have h3 := codeG_C h.1 hj M.tail
    exact ⟨(h.2 j hj).1, (h.2 j hj).2, h3.2, h3.1⟩
/-! ### what is read alone -/
end
namespace Cal
def rdE {α : Type} (d : Kd α) (A : Option Addr) (xs : List α) : Ent where
  H S w := ∀ w' : World, (∀ k, S k → k < w.heap.size → w'.heap[k]? = w.heap[k]?) → d.C w' A xs.length xs
  mono h := fun hh w' hw => hh w' fun k hk hlt => hw k (h k hk) hlt
  move := fun {S w w1} h hh w' hw => hh w' fun k hk hlt => by
    have h1 := h k hk hlt
    have h2 : k < w1.heap.size := by
      rw [Array.getElem?_eq_getElem hlt] at h1
      exact (Array.getElem?_eq_some_iff.1 h1).1
    exact (hw k hk h2).trans h1
theorem Mem.rd_C {α : Type} {d : Kd α} {wr w : World} {L : List Ent} {A : Option Addr} {xs : List α} (M : Mem wr w L) (p : Nat) (hp : L[p]? = some (rdE d A xs)) : d.C w A xs.length xs := by
  obtain ⟨S, _, he⟩ := M.get p hp
  exact he w fun _ _ _ => rfl
theorem Mem.rd_imp {α β : Type} {d : Kd α} {d' : Kd β} {wr w : World} {L : List Ent} {A A' : Option Addr} {xs : List α} {ys : List β} (M : Mem wr w (rdE d A xs :: L)) (h : ∀ w' : World, d.C w' A xs.length xs → d'.C w' A' ys.length ys) : Mem wr w (rdE d' A' ys :: L) :=
  M.imp fun _ _ he w' hw => h w' (he w' hw)
theorem Mem.rd_row {α : Type} {d : Kd α} {e : TypeId} {wr w : World} {L : List Ent} {A : Option Addr} {n c : Nat} {xs : List α} (M : Mem wr w (row d e (.slice A n c) xs :: L)) : Mem wr w (rdE d A xs :: L) :=
  M.imp fun S _ he w' hw => by
    obtain ⟨A', c', h1, _, h3⟩ := Kd.R_reads (Kd.R_step he hw)
    injection h1 with h1 _ _
    subst h1; exact h3
end Cal
/-- A row told cell by cell, with the rows inside: read alone. -/
theorem Mem.rd_apart {α β : Type} {S : Shp α β} {wr w : World} {L : List Ent} {e : TypeId} {A : Option Addr} {n c : Nat} {vs : List RawG} {fs : List α} (h : rawGOk S vs fs) (M : Mem wr w (row (kRawG S.h) e (.slice A n c) vs :: star (codesG S vs fs) :: L)) : Mem wr w (rdE S.d A fs :: L) := by
  obtain ⟨hb, S1, hS1, he1, S2, hS2, he2, hr⟩ := M
  refine ⟨hb, fun k => S1 k ∨ S2 k, fun k hk => hk.elim (hS1 k) (fun hk => (hS2 k hk).1), fun w' hw => ?_, hr.mono fun k hk => ⟨hk.1.1, fun hs => hs.elim hk.1.2 hk.2⟩⟩
  have h1 := (row (kRawG S.h) e (.slice A n c) vs).move (fun k hk hlt => hw k (.inl hk) hlt) he1
  have h2 := (star (codesG S vs fs)).move (fun k hk hlt => hw k (.inr hk) hlt) he2
  obtain ⟨A', c', e1, _, h3⟩ := Kd.R_reads h1
  injection e1 with e1 _ _
  subst e1
  refine raw_CG h3 h.1 fun j hj => ?_
  obtain ⟨S3, _, h4⟩ := Sep.get h2 (codesG_at h.1 hj)
  obtain ⟨A', c', e2, hl, h5⟩ := Kd.R_reads h4
  injection e2 with e2 _ e3
  exact ⟨(h.2 j hj).1, (h.2 j hj).2, by omega, by rw [e2]; exact h5⟩
end Go.Proofs.Ytfknhbgghpbkpaa
