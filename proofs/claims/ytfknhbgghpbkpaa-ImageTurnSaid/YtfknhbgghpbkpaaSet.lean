/- An element of a row of its own is written; rows of functions that are told cell by cell. -/
import Derived.Test.YtfknhbgghpbkpaaMix
namespace Go.Proofs.Ytfknhbgghpbkpaa
open Go.RowKit Cal Go.Proofs.YtfknhbgghpbkpaaW.PrintWords
namespace Cal
theorem splice_size : ∀ (vs : List Value) (cs : Array Value) (n : Nat), (splice cs n vs).size = cs.size
  | [], _, _ => rfl
  | v :: vs, cs, n => by rw [splice, splice_size vs]; simp
theorem splice_get : ∀ (vs : List Value) (cs : Array Value) (n : Nat), n + vs.length ≤ cs.size → ∀ i, (splice cs n vs)[i]? = if n ≤ i ∧ i < n + vs.length then vs[i - n]? else cs[i]?
  | [], cs, n, _, i => by
    rw [splice, if_neg (by simp only [List.length_nil]; omega)]
  | v :: vs, cs, n, h, i => by
    simp only [List.length_cons] at h
    rw [splice, splice_get vs _ _ (by simp; omega)]
    by_cases h1 : n + 1 ≤ i ∧ i < n + 1 + vs.length
    · rw [if_pos h1, if_pos (by simp only [List.length_cons]; omega), show i - n = (i - (n + 1)) + 1 by omega, List.getElem?_cons_succ]
    · rw [if_neg h1]
      by_cases h2 : i = n
      · subst h2
        rw [if_pos (by simp only [List.length_cons]; omega), Nat.sub_self, List.getElem?_cons_zero]
        rw [Array.getElem?_setIfInBounds_self_of_lt (by omega)]
      · rw [if_neg (by simp only [List.length_cons]; omega), Array.getElem?_setIfInBounds_ne (by omega)]
theorem blk_sets {b : Nat} {t : TypeId} : ∀ (vs : List Value) (n : Nat) {w : World} {cs : Array Value}, w.heap[b]? = some (.cells cs t (0, 0)) → (w.setCells b n vs).heap[b]? = some (.cells (splice cs n vs) t (0, 0)) ∧ ∀ k, k ≠ b → (w.setCells b n vs).heap[k]? = w.heap[k]?
  | [], _, _, _, h => ⟨h, fun _ _ => rfl⟩
  | v :: vs, n, w, cs, h => by
    have h1 := blk_set h n v
    have := blk_sets vs (n + 1) h1
    exact ⟨this.1, fun k hk => (this.2 k hk).trans (Below.heap_setCell w _ v k hk)⟩
theorem sets_frame (w : World) (b : Nat) : ∀ (vs : List Value) (n : Nat), (w.setCells b n vs).os = w.os ∧ (w.setCells b n vs).tape = w.tape ∧ (w.setCells b n vs).output = w.output ∧ (w.setCells b n vs).heap.size = w.heap.size := by
  intro vs
  induction vs generalizing w with
  | nil => intro n; exact ⟨rfl, rfl, rfl, rfl⟩
  | cons v vs ih =>
    intro n
    have := ih (w.setCell ⟨b, n, none⟩ v) (n + 1)
    exact ⟨this.1, this.2.1, this.2.2.1, this.2.2.2.trans (by simp)⟩
theorem reps_put {α : Type} {R : α → List Value → Prop} {size : Nat} {ps : List α} {cs : List Value} (h : Reps R size ps cs) {i : Nat} (hi : i < ps.length) {x : α} {seg : List Value} (hx : R x seg) (hl : seg.length = size) : Reps R size (ps.set i x) (cs.take (i * size) ++ seg ++ cs.drop (i * size + seg.length)) := by
  have hfit : i * size + size ≤ cs.length := by rw [h.1, ← Nat.succ_mul]; exact Nat.mul_le_mul_right _ hi
  have ht : (cs.take (i * size)).length = i * size := by rw [List.length_take]; omega
  refine ⟨by rw [List.length_set, ← h.1]; simp only [List.length_append, List.length_take, List.length_drop]; omega, fun m p hm => ?_⟩
  have hml : m < ps.length := by
    have := (List.getElem?_eq_some_iff.1 hm).1
    rwa [List.length_set] at this
  have hmf : m * size + size ≤ cs.length := by rw [h.1, ← Nat.succ_mul]; exact Nat.mul_le_mul_right _ hml
  by_cases hmi : m = i
  · subst hmi
    rw [List.getElem?_set_self hml] at hm
    injection hm with hm
    subst hm
    rw [List.append_assoc, List.drop_left' ht, List.take_left' hl]
    exact hx
  · rw [List.getElem?_set_ne (Ne.symm hmi)] at hm
    have e1 : ((cs.take (i * size) ++ seg ++ cs.drop (i * size + seg.length)).drop (m * size)).take size = (cs.drop (m * size)).take size := by
      apply List.ext_getElem?
      intro q
      rw [List.getElem?_take, List.getElem?_take]
      by_cases hq : q < size
      · rw [if_pos hq, if_pos hq, List.getElem?_drop, List.getElem?_drop]
        rcases Nat.lt_or_gt_of_ne hmi with hlt | hgt
        · have : m * size + size ≤ i * size := by rw [← Nat.succ_mul]; exact Nat.mul_le_mul_right _ hlt
          rw [List.append_assoc, List.getElem?_append_left (by omega), List.getElem?_take, if_pos (by omega)]
        · have : i * size + size ≤ m * size := by rw [← Nat.succ_mul]; exact Nat.mul_le_mul_right _ hgt
          rw [List.getElem?_append_right (by rw [List.length_append]; omega), List.length_append, ht, List.getElem?_drop, hl]
          congr 1; omega
      · rw [if_neg hq, if_neg hq]
    rw [e1]
    exact h.2 m p hm
section
variable {α : Type} {d : Kd α} {e : TypeId} {wr w : World} {L : List Ent} {xs : List α}
/-- Cells j.. of element q are written: the element is x then. -/
theorem Mem.rowset {ad : Addr} {n c : Nat} {x : α} {cs' : List Value} (M : Mem wr w (row d e (.slice (some ad) n c) xs :: owns d 0 x cs' :: L)) (z : α) (q j : Nat) (us : List Value) (hq : q < xs.length) (hj : j + us.length ≤ d.sz)
    (hK : ∀ cs, d.K w (xs.getD q z) cs → cs.take j ++ us ++ cs.drop (j + us.length) = cs') :
    ∃ g cur, ad = ⟨g, 0, none⟩ ∧ w.heap[g]? = some (.cells cur e (0, 0)) ∧ q * d.sz + d.sz ≤ cur.size ∧ Mem wr (w.setCells g (q * d.sz + j) us) (row d e (.slice (some ad) n c) (xs.set q x) :: L) := by
  obtain ⟨hb, S1, hS1, ⟨h0, inner, ho, hr⟩, S2, hS2, hM, hrest⟩ := M
  have hn : n = xs.length := by
    rcases ho.2 with ⟨h, _⟩ | ⟨g, cap, cur, h, _⟩
    · cases h
    · injection h with _ h _
  obtain ⟨hlen, hor⟩ := ho
  rcases hor with ⟨h, _⟩ | ⟨g, cap, cur, h, hbg, hg, hnc, hcm, hcs, htk⟩
  · cases h
  injection h with h1 h2 h3
  injection h1 with h1
  subst h1 h3
  have hqe : q * d.sz + d.sz ≤ xs.length * d.sz := by rw [← Nat.succ_mul]; exact Nat.mul_le_mul_right _ hq
  have hcap : xs.length * d.sz ≤ c * d.sz := Nat.mul_le_mul_right _ hnc
  refine ⟨g, cur, rfl, hg, by omega, ?_⟩
  have hgS : S1 g := h0 g rfl
  obtain ⟨hb1, hb2⟩ := blk_sets us (q * d.sz + j) hg
  have hfr := sets_frame w g us (q * d.sz + j)
  have hel : (inner.drop (q * d.sz)).take d.sz = (inner.drop (q * d.sz)).take d.sz := rfl
  have hqx : xs[q]? = some (xs.getD q z) := by simp [hq]
  have hMq := hr.2 q _ hqx
  have hKq := hK _ (d.K_of_M hMq)
  have hinl : inner.length = xs.length * d.sz := hlen
  have hcl : cs'.length = d.sz := d.K_len (d.K_of_M hM)
  have hne2 : ∀ k, S2 k → k ≠ g := fun k hk e1 => (hS2 k hk).2 (e1 ▸ hgS)
  have hinner : (inner.take (q * d.sz) ++ cs' ++ inner.drop (q * d.sz + cs'.length)) = (splice cur (q * d.sz + j) us).toList.take (xs.length * d.sz) := by
    apply List.ext_getElem?
    intro i
    rw [List.getElem?_take, Array.getElem?_toList (xs := splice cur (q * d.sz + j) us), splice_get us cur (q * d.sz + j) (by omega)]
    have hin : ∀ i, i < xs.length * d.sz → inner[i]? = cur[i]? := by
      intro i hi
      rw [← htk, List.getElem?_take, if_pos hi, Array.getElem?_toList (xs := cur)]
    by_cases hi : i < xs.length * d.sz
    · rw [if_pos hi]
      by_cases h1 : i < q * d.sz
      · rw [if_neg (by omega), List.append_assoc, List.getElem?_append_left (by rw [List.length_take]; omega), List.getElem?_take, if_pos h1, hin i hi]
      · by_cases h2 : i < q * d.sz + d.sz
        · rw [List.append_assoc, List.getElem?_append_right (by rw [List.length_take]; omega), List.getElem?_append_left (by rw [List.length_take, hcl]; omega), List.length_take, Nat.min_eq_left (by omega), ← hKq]
          have hsl : ((inner.drop (q * d.sz)).take d.sz).length = d.sz := by rw [List.length_take, List.length_drop]; omega
          by_cases h3 : i < q * d.sz + j
          · rw [if_neg (by omega), List.append_assoc, List.getElem?_append_left (by rw [List.length_take, hsl]; omega), List.getElem?_take, if_pos (by omega), List.getElem?_take, if_pos (by omega), List.getElem?_drop, show q * d.sz + (i - q * d.sz) = i by omega, hin i hi]
          · by_cases h4 : i < q * d.sz + j + us.length
            · rw [if_pos ⟨by omega, h4⟩, List.append_assoc, List.getElem?_append_right (by rw [List.length_take, hsl]; omega), List.getElem?_append_left (by rw [List.length_take, hsl]; omega), List.length_take, hsl]
              congr 1; omega
            · rw [if_neg (by omega), List.getElem?_append_right (by rw [List.length_append, List.length_take, hsl]; omega), List.length_append, List.length_take, hsl, List.getElem?_drop, List.getElem?_take, if_pos (by omega), List.getElem?_drop, show q * d.sz + (j + us.length + (i - q * d.sz - (min j d.sz + us.length))) = i by omega, hin i hi]
        · rw [if_neg (by omega), List.getElem?_append_right (by rw [List.length_append, List.length_take, hcl]; omega), List.length_append, List.length_take, hcl, List.getElem?_drop, show q * d.sz + d.sz + (i - (min (q * d.sz) inner.length + d.sz)) = i by omega, hin i hi]
    · rw [if_neg hi, List.getElem?_eq_none]
      simp only [List.length_append, List.length_take, List.length_drop, hcl]
      omega
  refine ⟨⟨hfr.1.trans hb.os, hfr.2.1.trans hb.tape, hfr.2.2.1.trans hb.output, by rw [hfr.2.2.2]; exact hb.size, fun k hk => ?_⟩, fun k => S1 k ∨ S2 k, ?_, ?_, ?_⟩
  · rw [hb2 k (fun e1 => by have := (hS1 g hgS).1; omega)]
    exact hb.block k hk
  · rintro k (hk | hk)
    · have := hS1 k hk; rw [hfr.2.2.2]; exact this
    · have := (hS2 k hk).1; rw [hfr.2.2.2]; exact this
  · refine ⟨fun k hk => .inl (h0 k hk), _, ?_, reps_put (hr.imp_ fun x cs h => ?_) hq (seg := cs') ?_ hcl⟩
    · rw [hinner]
      refine ⟨?_, .inr ⟨g, c, splice cur (q * d.sz + j) us, ?_, Nat.zero_le _, hb1, ?_, hcm, ?_, ?_⟩⟩
      · have hsz : (splice cur (q * d.sz + j) us).toList.length = c * d.sz := (splice_size us cur _).trans hcs
        rw [List.length_take, hsz, List.length_set]; omega
      · rw [List.length_set, hn]
      · rw [List.length_set]; exact hnc
      · rw [splice_size]; exact hcs
      · rw [List.length_set]
    · have h := d.M_bound h
      exact d.M_mono (fun k hk => ⟨.inl hk.1.1, hk.1.2⟩) (d.M_move (w1 := w.setCells g (q * d.sz + j) us) (fun k hk => hb2 k (fun e1 => hk.1.2 (by rw [e1]; rfl))) h)
    · exact d.M_mono (fun k hk => ⟨.inr hk, fun e1 => by simp only [Value.ownBlock, Option.some.injEq] at e1; exact hne2 k hk e1⟩) (d.M_move (w1 := w.setCells g (q * d.sz + j) us) (fun k hk => hb2 k (hne2 k hk)) hM)
  · refine Sep.mono ?_ (Sep.move (w' := w.setCells g (q * d.sz + j) us) (fun k hk _ => hb2 k (fun e1 => hk.1.2 (e1 ▸ hgS))) hrest)
    rintro k ⟨⟨hk, n1⟩, n2⟩
    exact ⟨by rw [hfr.2.2.2]; exact hk, fun h => h.elim n1 n2⟩
end
end Cal
end Go.Proofs.Ytfknhbgghpbkpaa
