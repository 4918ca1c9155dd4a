/- Plain laws: the document's reader. -/
import Derived.Test.YtfknhbgghpbkpaaTell1
import Derived.Test.YtfknhbgghpbkpaaOpen
namespace Go.Proofs.Ytfknhbgghpbkpaa
open Go.RowKit Cal Go.Proofs.YtfknhbgghpbkpaaW.PrintWords
theorem imm_ok {p : List Fn} {i k : Nat} (h : ∀ f ∈ p, f.ok) (hi : i < p.length) (hk : k < (p.getD i Fn.z).code.length) : 0 ≤ ((p.getD i Fn.z).code.getD k Inst.z).imm ∧ ((p.getD i Fn.z).code.getD k Inst.z).imm < 4294967296 :=
  ((h _ (at_mem Fn.z hi)).2 _ (at_mem Inst.z hk)).2.2.2.2.2
theorem rd_neg {l : List Int} {n : Nat} (h : n ≤ l.length) : ¬ (((l, false) : RS).2 = true ∨ ((l, false) : RS).1.length < n) := by
  rintro (h' | h')
  · cases h'
  · exact absurd h' (Nat.not_lt.2 h)
theorem rdInt_go {l : List Int} (h : 1 ≤ l.length) : rdInt (l, false) = (l.getD 0 0, (l.drop 1, false)) := by
  unfold rdInt rdTake
  rw [if_neg (rd_neg h)]
  cases l with
  | nil => simp at h
  | cons x l => rfl
theorem rdInt_bad (l : List Int) : rdInt (l, true) = (0, (l, true)) := rfl
theorem rdInt_short {l : List Int} (h : l.length < 1) : rdInt (l, false) = (0, (l, true)) := by
  unfold rdInt rdTake
  rw [if_pos (.inr h)]
  rfl
theorem rdFn_short {l : List Int} (h : l.length < 2) : (rdFn (l, false)).2.2 = true := by
  unfold rdFn
  simp only
  by_cases h1 : 1 ≤ l.length
  · have h2 : (l.drop 1).length < 1 := by rw [List.length_drop]; omega
    rw [rdInt_go h1, rdInt_short h2, rdCode_stop (.inr rfl)]
  · rw [rdInt_short (by omega), rdInt_bad, rdCode_stop (.inr rfl)]
theorem rdFn_long {l : List Int} (h : 2 ≤ l.length) : rdFn (l, false) = (⟨l.getD 0 0, (rdCode (l.getD 1 0).toNat [] (l.drop 2, false)).1⟩, (rdCode (l.getD 1 0).toNat [] (l.drop 2, false)).2) := by
  have h2 : 1 ≤ (l.drop 1).length := by rw [List.length_drop]; omega
  unfold rdFn
  simp only
  rw [rdInt_go (by omega), rdInt_go h2]
  simp
theorem rdInst_short {l : List Int} (h : l.length < 8) : (rdInst (l, false)).2.2 = true := by
  unfold rdInst rdTake
  rw [if_pos (.inr h)]
  rfl
theorem rdInst_long {l : List Int} (h : 8 ≤ l.length) : rdInst (l, false) = ((instGet (l.take 8)).1, (l.drop 8, (instGet (l.take 8)).2 != 0)) := by
  unfold rdInst rdTake
  rw [if_neg (rd_neg h)]
  simp
/-- The beginning. -/
def HeadOk (bs : List Int) : Prop := 3 ≤ bs.length ∧ bs.getD 0 0 = 88 ∧ bs.getD 1 0 = 86
theorem head_hdr {bs : List Int} (h : HeadOk bs) : hdr bs = (true, (bs.drop 2, false)) := by
  obtain ⟨h3, h0, h1⟩ := h
  have e1 := rdInt_go (l := bs) (by omega)
  have e2 := rdInt_go (l := bs.drop 1) (by rw [List.length_drop]; omega)
  have e3 : (bs.drop 1).getD 0 0 = bs.getD 1 0 := by simp
  have e4 := hdr_one (bs := bs) (by rw [e1]; simp only [h0]; rfl)
  rw [e4, e1]
  simp only [e2, e3, h1, List.drop_drop]
  rfl
theorem head_no {bs : List Int} (h : ¬ HeadOk bs) : progGet bs = ([], 7) := by
  by_cases hl : 1 ≤ bs.length
  · by_cases h0 : bs.getD 0 0 = 88
    · have e1 := rdInt_go (l := bs) hl
      have e4 := hdr_one (bs := bs) (by rw [e1]; simp only [h0]; rfl)
      by_cases h2 : 2 ≤ bs.length
      · have e2 := rdInt_go (l := bs.drop 1) (by rw [List.length_drop]; omega)
        have e3 : (bs.drop 1).getD 0 0 = bs.getD 1 0 := by simp
        by_cases h1 : bs.getD 1 0 = 86
        · have h3 : bs.length < 3 := by
            rcases Nat.lt_or_ge bs.length 3 with h3 | h3
            · exact h3
            · exact absurd ⟨h3, h0, h1⟩ h
          have e5 : hdr bs = (true, (bs.drop 2, false)) := by
            rw [e4, e1]
            simp only [e2, e3, h1, List.drop_drop]
            rfl
          have e6 := rdInt_short (l := bs.drop 2) (by rw [List.length_drop]; omega)
          have := get_end (bs := bs) (acc := []) (q := (bs.drop 2, true)) (by rw [e5]) (by rw [e5]; simp only; rw [e6]; rfl)
          rw [this]; rfl
        · refine get_no ?_
          rw [e4, e1]
          simp only [e2, e3]
          simpa using h1
      · refine get_no ?_
        rw [e4, e1]
        simp only
        rw [rdInt_short (by rw [List.length_drop]; omega)]
        rfl
    · refine get_no ?_
      rw [hdr_no (by rw [rdInt_go hl]; simpa using h0)]
  · refine get_no ?_
    rw [hdr_no (by rw [rdInt_short (by omega)]; rfl)]
def nFns (bs : List Int) : Nat := (bs.getD 2 0).toNat
def nIns (bs : List Int) (at_ : Nat) : Nat := (bs.getD (at_ + 1) 0).toNat
/-- Behind i functions. -/
structure OutG (bs : List Int) (i : Nat) (acc : List Fn) (at_ : Nat) : Prop where
  head : HeadOk bs
  le : i ≤ nFns bs
  len : acc.length = i
  fit : at_ ≤ bs.length
  rest : rdFns (nFns bs - i) acc (bs.drop at_, false) = rdFns (nFns bs) [] (bs.drop 3, false)
theorem out_zero {bs : List Int} (h : HeadOk bs) : OutG bs 0 [] 3 := ⟨h, Nat.zero_le _, rfl, h.1, rfl⟩
theorem out_res {bs : List Int} {i : Nat} {acc : List Fn} {at_ : Nat} (h : OutG bs i acc at_) {r : List Fn} {q : RS} (hr : rdFns (nFns bs - i) acc (bs.drop at_, false) = (r, q)) : progGet bs = if !q.2 && q.1.isEmpty && progMay r then (r, 0) else ([], 7) := by
  have e := head_hdr h.head
  have e3 := rdInt_go (l := bs.drop 2) (by have := h.head.1; rw [List.length_drop]; omega)
  have e4 : (bs.drop 2).getD 0 0 = bs.getD 2 0 := by simp
  refine get_end (by rw [e]) ?_
  rw [e]
  simp only [e3, e4, List.drop_drop]
  rw [← hr, h.rest]; rfl
theorem out_bad {bs : List Int} {i : Nat} {acc : List Fn} {at_ : Nat} (h : OutG bs i acc at_) (hi : i < nFns bs) (hb : (rdFn (bs.drop at_, false)).2.2 = true) : progGet bs = ([], 7) := by
  have hr : rdFns (nFns bs - i) acc (bs.drop at_, false) = (acc ++ [(rdFn (bs.drop at_, false)).1], (rdFn (bs.drop at_, false)).2) := by
    rw [rdFns_go (by omega) rfl, rdFns_stop (.inr hb)]
  rw [out_res h hr, hb]; rfl
theorem out_short {bs : List Int} {i : Nat} {acc : List Fn} {at_ : Nat} (h : OutG bs i acc at_) (hi : i < nFns bs) (hs : bs.length < at_ + 2) : progGet bs = ([], 7) :=
  out_bad h hi (rdFn_short (by rw [List.length_drop]; have := h.fit; omega))
theorem out_end {bs : List Int} {i : Nat} {acc : List Fn} {at_ : Nat} (h : OutG bs i acc at_) (hi : nFns bs ≤ i) : progGet bs = if progMay acc = true ∧ at_ = bs.length then (acc, 0) else ([], 7) := by
  have hr : rdFns (nFns bs - i) acc (bs.drop at_, false) = (acc, (bs.drop at_, false)) := rdFns_stop (.inl (by omega))
  rw [out_res h hr]
  have hf := h.fit
  have he : (bs.drop at_).isEmpty = decide (at_ = bs.length) := by
    rw [Bool.eq_iff_iff, List.isEmpty_iff, decide_eq_true_iff, List.drop_eq_nil_iff]; omega
  simp only [he]
  by_cases h1 : progMay acc = true <;> by_cases h2 : at_ = bs.length <;> simp [h1, h2]
/-- Behind k instructions of a function that begins at a place. -/
structure InG (bs : List Int) (at_ : Nat) (k : Nat) (acc : List Inst) (at2 : Nat) : Prop where
  two : at_ + 2 ≤ bs.length
  le : k ≤ nIns bs at_
  len : acc.length = k
  fit : at2 ≤ bs.length
  rest : rdCode (nIns bs at_ - k) acc (bs.drop at2, false) = rdCode (nIns bs at_) [] (bs.drop (at_ + 2), false)
theorem in_zero {bs : List Int} {at_ : Nat} (h : at_ + 2 ≤ bs.length) : InG bs at_ 0 [] (at_ + 2) := ⟨h, Nat.zero_le _, rfl, h, rfl⟩
theorem in_fn {bs : List Int} {at_ k : Nat} {acc : List Inst} {at2 : Nat} (h : InG bs at_ k acc at2) {r : List Inst} {q : RS} (hr : rdCode (nIns bs at_ - k) acc (bs.drop at2, false) = (r, q)) : rdFn (bs.drop at_, false) = (⟨bs.getD at_ 0, r⟩, q) := by
  have e1 : (bs.drop at_).getD 0 0 = bs.getD at_ 0 := by simp
  have e2 : (bs.drop at_).getD 1 0 = bs.getD (at_ + 1) 0 := by simp
  have e3 : (bs.drop at_).drop 2 = bs.drop (at_ + 2) := by simp
  rw [rdFn_long (by rw [List.length_drop]; have := h.two; omega), e1, e2, e3]
  have := h.rest.symm.trans hr
  unfold nIns at this
  rw [this]
theorem cut8 (bs : List Int) (n : Nat) : (bs.drop n).take 8 = (bs.take (n + 8)).drop n := by
  rw [List.drop_take]; congr 1; omega
theorem in_short {bs : List Int} {at_ k : Nat} {acc : List Inst} {at2 : Nat} (h : InG bs at_ k acc at2) (hk : k < nIns bs at_) (hs : bs.length < at2 + 8) : (rdFn (bs.drop at_, false)).2.2 = true := by
  have hb := rdInst_short (l := bs.drop at2) (by rw [List.length_drop]; have := h.fit; omega)
  have hr : rdCode (nIns bs at_ - k) acc (bs.drop at2, false) = (acc ++ [(rdInst (bs.drop at2, false)).1], (rdInst (bs.drop at2, false)).2) := by
    rw [rdCode_go (by omega) rfl, rdCode_stop (.inr hb)]
  rw [in_fn h hr]; exact hb
theorem in_err {bs : List Int} {at_ k : Nat} {acc : List Inst} {at2 : Nat} (h : InG bs at_ k acc at2) (hk : k < nIns bs at_) (hl : at2 + 8 ≤ bs.length) (he : (instGet ((bs.take (at2 + 8)).drop at2)).2 ≠ 0) : (rdFn (bs.drop at_, false)).2.2 = true := by
  have e := rdInst_long (l := bs.drop at2) (by rw [List.length_drop]; omega)
  have hb : (rdInst (bs.drop at2, false)).2.2 = true := by rw [e, cut8]; simpa using he
  have hr : rdCode (nIns bs at_ - k) acc (bs.drop at2, false) = (acc ++ [(rdInst (bs.drop at2, false)).1], (rdInst (bs.drop at2, false)).2) := by
    rw [rdCode_go (by omega) rfl, rdCode_stop (.inr hb)]
  rw [in_fn h hr]; exact hb
theorem in_step {bs : List Int} {at_ k : Nat} {acc : List Inst} {at2 : Nat} (h : InG bs at_ k acc at2) (hk : k < nIns bs at_) (hl : at2 + 8 ≤ bs.length) (he : (instGet ((bs.take (at2 + 8)).drop at2)).2 = 0) :
    InG bs at_ (k + 1) (acc ++ [(instGet ((bs.take (at2 + 8)).drop at2)).1]) (at2 + 8) := by
  refine ⟨h.two, hk, by rw [List.length_append, h.len]; rfl, hl, ?_⟩
  rw [← h.rest, rdCode_go (n := nIns bs at_ - k) (by omega) rfl, rdInst_long (l := bs.drop at2) (by rw [List.length_drop]; omega), cut8, he, List.drop_drop, show nIns bs at_ - (k + 1) = nIns bs at_ - k - 1 by omega]
  rfl
theorem out_step {bs : List Int} {i : Nat} {acc : List Fn} {at_ k at2 : Nat} {accI : List Inst} (h : OutG bs i acc at_) (hi : i < nFns bs) (hI : InG bs at_ k accI at2) (hk : nIns bs at_ ≤ k) : OutG bs (i + 1) (acc ++ [⟨bs.getD at_ 0, accI⟩]) at2 := by
  have hf := in_fn hI (r := accI) (q := (bs.drop at2, false)) (rdCode_stop (.inl (by omega)))
  refine ⟨h.head, hi, by rw [List.length_append, h.len]; rfl, hI.fit, ?_⟩
  rw [← h.rest, rdFns_go (n := nFns bs - i) (by omega) rfl, hf, show nFns bs - (i + 1) = nFns bs - i - 1 by omega]
theorem few_of_may {p : List Fn} (h : progMay p = true) : fewB p = true := by
  have hb := progMay_bd h
  simp only [fewB, Bool.and_eq_true, decide_eq_true_eq, List.all_eq_true]
  refine ⟨by omega, fun f hf => ?_⟩
  have := (fnMay_bd (hb.2.2.2 f hf)).2.2.2.1
  simp only [fewF, decide_eq_true_eq]; omega
namespace Cal
/-- A whole element is stored, in a region that draws. -/
theorem te_rset {P : Program} {N : Nat} {Q : Exit → Act → World → Prop} {fr : Fr} {wr w : World} {L : List Ent} {all : Array Oper} {S : World → Prop} {ds : List Nat} {fuel : Nat} {listed : Array Bool} {α : Type} {d : Kd α} {e : TypeId} {xs : List α} {i : Nat} {o : Oper} {ad : Addr} {n c : Nat} {x : α} {vs : Array Value}
    (M : Mem wr w (row d e (.slice (some ad) n c) xs :: owns d 0 x vs.toList :: L)) (z : α) (q : Nat) (hq : q < xs.length)
    (hSk : ∀ w', Mem wr w' (row d e (.slice (some ad) n c) (xs.set q x) :: L) → i ∉ ds → S w → S w')
    (h : ∀ w', Mem wr w' (row d e (.slice (some ad) n c) (xs.set q x) :: L) → TY P N Q all S ds fuel (listed.setIfInBounds i true) fr w') {ty : TypeId} {a y : Operand}
    (ho : all[i]? = some o := by rfl) (hd : o.dst = none := by rfl) (hop : o.op = .store ty a y := by rfl) (hw : ∀ j, Region.wanted o (yl N all j fr) = true := by intro j; rfl)
    (hx : ∀ j, ev j fr a = .pointer (some (ad.add (q * d.sz))) := by intro j; rfl) (hy : ∀ j, ev j fr y = .agg vs := by intro j; rfl) (hi : (P.info? ty).map (·.size) = some vs.size := by kernel_rfl) : TE P N Q all S ds fuel listed fr w i := by
  have hK := M.owns_K 1 rfl
  have hl : vs.toList.length = d.sz := d.K_len hK
  obtain ⟨g, cur, rfl, hg, hsz, M'⟩ := M.rowset z q 0 vs.toList hq (by omega) (fun cs hc => by rw [List.take_zero, List.nil_append, List.drop_eq_nil_of_le (by rw [d.K_len hc]; omega), List.append_nil])
  have h1 : vs.all (·.oneCell') = true := by rw [Array.all_eq_true']; exact fun u hu => d.K_one hK u (by simpa using hu)
  have hr := run_storeAt_mid (P := P) w g (q * d.sz) ty vs (there_of hg (by rw [← Array.length_toList, hl]; omega)) hi h1
  rw [← add0] at hr
  exact te_skip (fun j => exec_store hop (hx j) (hy j) hr) (hSk _ M') (h _ M') ho hd hw
end Cal
end Go.Proofs.Ytfknhbgghpbkpaa
