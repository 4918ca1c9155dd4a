/- Rows of functions whose codes are apart: one of them may be written. -/
import Derived.Test.YtfknhbgghpbkpaaSet2
namespace Go.Proofs.Ytfknhbgghpbkpaa
open Go.RowKit Cal Go.Proofs.YtfknhbgghpbkpaaW.PrintWords
namespace Cal
theorem Sep.split {w : World} : ∀ {A B : List Ent} {T : Nat → Prop}, Sep w T (A ++ B) → ∃ S : Nat → Prop, (∀ k, S k → T k) ∧ Sep w S A ∧ Sep w (fun k => T k ∧ ¬ S k) B
  | [], _, _, h => ⟨fun _ => False, fun _ h => h.elim, trivial, h.mono fun _ hk => ⟨hk, id⟩⟩
  | e :: A, B, T, ⟨S0, hS0, he, hr⟩ => by
    obtain ⟨S1, h1, hA, hB⟩ := Sep.split (A := A) hr
    refine ⟨fun k => S0 k ∨ S1 k, fun k hk => hk.elim (hS0 k) (fun h => (h1 k h).1), ⟨S0, fun _ hk => .inl hk, he, hA.mono fun k hk => ⟨.inr hk, (h1 k hk).2⟩⟩, hB.mono ?_⟩
    rintro k ⟨⟨hk, n0⟩, n1⟩
    exact ⟨hk, fun h => h.elim n0 n1⟩
theorem Sep.back {w : World} {e : Ent} : ∀ {L : List Ent} {T : Nat → Prop} {p : Nat}, L[p]? = some e → Sep w T (e :: L.eraseIdx p) → Sep w T L
  | [], _, _, h, _ => by simp at h
  | e0 :: L, T, 0, h, hs => by
    simp only [List.getElem?_cons_zero, Option.some.injEq] at h
    subst h
    exact hs
  | e0 :: L, T, p + 1, h, ⟨S1, hS1, he1, S, hS, he, hr⟩ => by
    simp only [List.getElem?_cons_succ] at h
    refine ⟨S, fun k hk => (hS k hk).1, he, Sep.back h ⟨S1, fun k hk => ⟨hS1 k hk, fun hs => (hS k hs).2 hk⟩, he1, hr.mono ?_⟩⟩
    rintro k ⟨⟨hk, n1⟩, n2⟩
    exact ⟨⟨hk, n2⟩, n1⟩
/-- Entries as one. -/
def star (A : List Ent) : Ent where
  H S w := Sep w S A
  mono h := Sep.mono h
  move h := Sep.move h
theorem Mem.unstar {wr w : World} {A L : List Ent} (M : Mem wr w (star A :: L)) : Mem wr w (A ++ L) := by
  obtain ⟨hb, S, hS, he, hr⟩ := M
  exact ⟨hb, Sep.mono (fun k hk => hk.elim (fun h => h.1) (hS k)) (Sep.join (T := fun k => (wr.heap.size ≤ k ∧ k < w.heap.size) ∧ ¬ S k) (T' := S) (fun k hk h => h.2 hk) he hr)⟩
theorem Mem.star {wr w : World} {A L : List Ent} (M : Mem wr w (A ++ L)) : Mem wr w (Cal.star A :: L) := by
  obtain ⟨hb, hs⟩ := M
  obtain ⟨S, h1, h2, h3⟩ := Sep.split hs
  exact ⟨hb, S, h1, h2, h3⟩
theorem Mem.back {wr w : World} {L : List Ent} {p : Nat} {e : Ent} (hp : L[p]? = some e) (M : Mem wr w (e :: L.eraseIdx p)) : Mem wr w L := ⟨M.below, Sep.back hp M.sep⟩
end Cal
abbrev Raw := Int × Option Addr × Nat × Nat
def codeE (v : Raw) (f : Fn) : Ent := row kInst 65 (.slice v.2.1 f.code.length v.2.2.2) f.code
def codes : List Raw → List Fn → List Ent
  | v :: vs, f :: fs => codeE v f :: codes vs fs
  | _, _ => []
theorem codes_snoc : ∀ {vs : List Raw} {fs : List Fn} (v : Raw) (f : Fn), vs.length = fs.length → codes (vs ++ [v]) (fs ++ [f]) = codes vs fs ++ [codeE v f]
  | [], [], _, _, _ => rfl
  | _ :: vs, _ :: fs, v, f, h => by
    simp only [List.cons_append, codes]
    rw [codes_snoc v f (by simpa using h)]
theorem codes_at : ∀ {vs : List Raw} {fs : List Fn} {j : Nat}, vs.length = fs.length → j < fs.length → (codes vs fs)[j]? = some (codeE (vs.getD j rawZ) (fs.getD j Fn.z))
  | [], [], _, _, h => by simp at h
  | v :: vs, f :: fs, 0, _, _ => rfl
  | v :: vs, f :: fs, j + 1, hl, h => by
    simp only [codes, List.getElem?_cons_succ, List.getD_cons_succ]
    exact codes_at (by simpa using hl) (by simpa using h)
theorem codes_set : ∀ {vs : List Raw} {fs : List Fn} {j : Nat} (f : Fn), vs.length = fs.length → (codes vs fs).set j (codeE (vs.getD j rawZ) f) = codes vs (fs.set j f)
  | [], [], _, _, _ => rfl
  | v :: vs, g :: fs, 0, _, _ => rfl
  | v :: vs, g :: fs, j + 1, f, hl => by
    simp only [codes, List.set_cons_succ, List.getD_cons_succ]
    rw [codes_set f (by simpa using hl)]
/-- One code more. -/
theorem codes_more {wr w : World} {L : List Ent} {vs : List Raw} {fs : List Fn} {v : Raw} {f : Fn} (hl : vs.length = fs.length) (M : Mem wr w (star (codes vs fs) :: codeE v f :: L)) : Mem wr w (star (codes (vs ++ [v]) (fs ++ [f])) :: L) := by
  have h := M.unstar
  rw [codes_snoc v f hl]
  exact Mem.star (A := codes vs fs ++ [codeE v f]) (by simpa using h)
theorem codes_len : ∀ {vs : List Raw} {fs : List Fn}, vs.length = fs.length → (codes vs fs).length = fs.length
  | [], [], _ => rfl
  | _ :: vs, _ :: fs, h => by
    simp only [codes, List.length_cons]
    rw [codes_len (by simpa using h)]
theorem erase_set {α : Type} : ∀ (l : List α) (j : Nat) (a : α), (l.set j a).eraseIdx j = l.eraseIdx j
  | [], _, _ => rfl
  | _ :: _, 0, _ => rfl
  | b :: l, j + 1, a => by simp only [List.set_cons_succ, List.eraseIdx_cons_succ]; rw [erase_set l j a]
/-- The j-th code reads. -/
theorem code_C {wr w : World} {L : List Ent} {vs : List Raw} {fs : List Fn} {j : Nat} (hl : vs.length = fs.length) (hj : j < fs.length) (M : Mem wr w (star (codes vs fs) :: L)) :
    kInst.C w (vs.getD j rawZ).2.1 (fs.getD j Fn.z).code.length (fs.getD j Fn.z).code ∧ (fs.getD j Fn.z).code.length ≤ (vs.getD j rawZ).2.2.2 := by
  have h := M.unstar
  have hp : (codes vs fs ++ L)[j]? = some (row kInst 65 (.slice (vs.getD j rawZ).2.1 (fs.getD j Fn.z).code.length (vs.getD j rawZ).2.2.2) (fs.getD j Fn.z).code) := by
    rw [List.getElem?_append_left (by rw [codes_len hl]; exact hj)]; exact codes_at hl hj
  exact ⟨h.row_C j hp, h.row_cap j hp⟩
/-- An instruction of the j-th code is written. -/
theorem code_set {wr w : World} {L : List Ent} {vs : List Raw} {fs : List Fn} {j k : Nat} {ad : Addr} (x : Inst) (hl : vs.length = fs.length) (hj : j < fs.length) (hk : k < (fs.getD j Fn.z).code.length) (ha : (vs.getD j rawZ).2.1 = some ad) (M : Mem wr w (star (codes vs fs) :: L)) :
    ∃ g cur, ad = ⟨g, 0, none⟩ ∧ w.heap[g]? = some (.cells cur 65 (0, 0)) ∧ k * kInst.sz + kInst.sz ≤ cur.size ∧
      Mem wr (w.setCells g (k * kInst.sz) x.cs.toList) (star (codes vs (fs.set j ⟨(fs.getD j Fn.z).args, (fs.getD j Fn.z).code.set k x⟩)) :: L) := by
  have h := M.unstar
  have hjc : j < (codes vs fs).length := by rw [codes_len hl]; exact hj
  have hp : (codes vs fs ++ L)[j]? = some (codeE (vs.getD j rawZ) (fs.getD j Fn.z)) := by
    rw [List.getElem?_append_left hjc]; exact codes_at hl hj
  have h1 := h.front j hp
  have h2 : Mem wr w (row kInst 65 (.slice (some ad) (fs.getD j Fn.z).code.length (vs.getD j rawZ).2.2.2) (fs.getD j Fn.z).code :: (codes vs fs ++ L).eraseIdx j) := by
    rw [← ha]; exact h1
  have h3 := (h2.flat (d := kInst) (x := x) (cs := x.cs.toList) (kInst_M _ _)).swap
  obtain ⟨g, cur, e, hg, hs, h4⟩ := h3.rowset Inst.z k 0 x.cs.toList hk (Nat.le_refl 7) (fun cs hc => by
    have e1 : cs.length = 7 := kInst.K_len hc
    rw [List.take_zero, List.nil_append, List.drop_eq_nil_of_le (by rw [e1]; exact Nat.le_refl _), List.append_nil])
  refine ⟨g, cur, e, hg, hs, ?_⟩
  have h5 : Mem wr (w.setCells g (k * kInst.sz) x.cs.toList) (codeE (vs.getD j rawZ) ⟨(fs.getD j Fn.z).args, (fs.getD j Fn.z).code.set k x⟩ :: ((codes vs fs ++ L).set j (codeE (vs.getD j rawZ) ⟨(fs.getD j Fn.z).args, (fs.getD j Fn.z).code.set k x⟩)).eraseIdx j) := by
    rw [erase_set]
    have hcl : ((fs.getD j Fn.z).code.set k x).length = (fs.getD j Fn.z).code.length := List.length_set
    unfold codeE
    rw [ha]
    simp only [hcl]
    exact h4
  have h6 := Mem.back (p := j) (by rw [List.getElem?_set_self (by rw [List.length_append]; omega)]) h5
  rw [List.set_append_left _ _ hjc, codes_set _ hl] at h6
  exact Mem.star h6
def rawOk (vs : List Raw) (fs : List Fn) : Prop := vs.length = fs.length ∧ ∀ j, j < fs.length → (vs.getD j rawZ).1 = (fs.getD j Fn.z).args ∧ (vs.getD j rawZ).2.2.1 = (fs.getD j Fn.z).code.length
theorem rawOk_nil : rawOk [] [] := ⟨rfl, fun j h => absurd h (Nat.not_lt_zero _)⟩
theorem rawOk_snoc {vs : List Raw} {fs : List Fn} {v : Raw} {f : Fn} (h : rawOk vs fs) (h1 : v.1 = f.args) (h2 : v.2.2.1 = f.code.length) : rawOk (vs ++ [v]) (fs ++ [f]) := by
  refine ⟨by simp [h.1], fun j hj => ?_⟩
  have hl := h.1
  rcases Nat.lt_or_ge j fs.length with hlt | hge
  · have e1 : (vs ++ [v]).getD j rawZ = vs.getD j rawZ := by simp [List.getElem?_append_left, hl, hlt]
    have e2 : (fs ++ [f]).getD j Fn.z = fs.getD j Fn.z := by simp [List.getElem?_append_left, hlt]
    rw [e1, e2]; exact h.2 j hlt
  · have hj' : j = fs.length := by simp only [List.length_append, List.length_singleton] at hj; omega
    subst hj'
    have e1 : (vs ++ [v]).getD fs.length rawZ = v := by simp [← hl]
    have e2 : (fs ++ [f]).getD fs.length Fn.z = f := by simp
    rw [e1, e2]; exact ⟨h1, h2⟩
theorem rawOk_set {vs : List Raw} {fs : List Fn} {i : Nat} {f : Fn} (h : rawOk vs fs) (h1 : (fs.getD i Fn.z).args = f.args) (h2 : (fs.getD i Fn.z).code.length = f.code.length) : rawOk vs (fs.set i f) := by
  refine ⟨by rw [List.length_set]; exact h.1, fun j hj => ?_⟩
  rw [List.length_set] at hj
  have h0 := h.2 j hj
  by_cases hij : i = j
  · subst hij
    have e : (fs.set i f).getD i Fn.z = f := by simp [hj]
    rw [e, ← h1, ← h2]; exact h0
  · have e : (fs.set i f).getD j Fn.z = fs.getD j Fn.z := by simp [List.getElem?_set_ne hij]
    rw [e]; exact h0
/-- Such a row and its codes read as functions. -/
theorem apart_C {e : TypeId} {A : Option Addr} {n c : Nat} {wr w : World} {L : List Ent} {vs : List Raw} {fs : List Fn} (h : rawOk vs fs) (M : Mem wr w (row kRaw e (.slice A n c) vs :: star (codes vs fs) :: L)) : kFn.C w A fs.length fs := by
  have h1 := M.row_C 0 rfl
  have M2 := (raw_row M)
  have h2 := M2.row_C 0 rfl
  refine mix_C h2 (by rw [List.length_map]; exact h.1) fun j hj => ?_
  have hjv : j < vs.length := by rw [h.1]; exact hj
  have e1 : (vs.map Sum.inr : List MixE).getD j MixE.z = .inr (vs.getD j rawZ) := by simp [hjv]
  rw [e1]
  have h3 := code_C h.1 hj M.tail
  exact ⟨(h.2 j hj).1, (h.2 j hj).2, h3.2, h3.1⟩
end Go.Proofs.Ytfknhbgghpbkpaa
