/- Memories: blocks of words; what layer 13 comes to, as plain functions. -/
import Derived.Test.YtfknhbgghpbkpaaShp
import Derived.Test.YtfknhbgghpbkpaaRng2
namespace Go.Proofs.Ytfknhbgghpbkpaa
open Go.RowKit Cal Go.Proofs.YtfknhbgghpbkpaaW.PrintWords
structure Blk where
  id : Int
  pos : Int
  w : List Int
  deriving DecidableEq
def Blk.z : Blk := ⟨0, 0, []⟩
def Blk.fin (b : Blk) : Int := b.pos + b.w.length
def kW : Kd Int := Kd.int .u64
theorem flatW : Flat kW := fun _ _ _ h _ _ => h
theorem kW_open {w : World} {x : Int} {cs : List Value} (h : kW.K w x cs) : cs = [.int .u64 x] := h
def kBlk : Kd Blk := Kd.iso (Kd.pair (Kd.int .i64) (Kd.pair (Kd.int .i64) (Kd.slice 26 kW))) (fun x : Blk => (x.id, x.pos, x.w))
theorem kBlk_open {w : World} {x : Blk} {cs : List Value} (h : kBlk.K w x cs) : ∃ A c, cs = [.int .i64 x.id, .int .i64 x.pos, .slice A x.w.length c] ∧ x.w.length ≤ c ∧ kW.C w A x.w.length x.w := by
  obtain ⟨_, _, rfl, rfl, ⟨_, _, rfl, rfl, ⟨A1, c1, rfl, l1, g1⟩⟩⟩ := h
  exact ⟨A1, c1, rfl, l1, g1⟩
def SB : Shp Blk Int where
  d := kBlk
  dI := kW
  eI := 26
  z := Blk.z
  h := 2
  hd x := [.int .i64 x.id, .int .i64 x.pos]
  inn x := x.w
  hdl _ := rfl
  hd1 _ u hu := by
    simp only [List.mem_cons, List.not_mem_nil, or_false] at hu
    rcases hu with rfl | rfl <;> rfl
  sz := rfl
  opn h := by
    obtain ⟨A, c, rfl, hl, hC⟩ := kBlk_open h
    exact ⟨A, c, rfl, hl, hC⟩
  mak hl hC := ⟨[_], _, rfl, rfl, ⟨[_], [_], rfl, rfl, _, _, rfl, hl, hC⟩⟩
  flat := flatW
theorem rawB_M (w : World) (a b : Int) (A : Option Addr) (n c : Nat) (ok : Nat → Prop) : (kRawG 2).M w 0 ok (([.int .i64 a, .int .i64 b], A, n, c) : RawG) [.int .i64 a, .int .i64 b, .slice A n c] :=
  ⟨rfl, rfl, fun u hu => by
    simp only [List.mem_cons, List.not_mem_nil, or_false] at hu
    rcases hu with rfl | rfl <;> rfl⟩
/-! ### what may be -/
def okAt (cap : Int) (l : List Blk) (j : Nat) : Prop :=
  1 ≤ (l.getD j Blk.z).id ∧ 1 ≤ (l.getD j Blk.z).w.length ∧ 0 ≤ (l.getD j Blk.z).pos ∧ (l.getD j Blk.z).pos ≤ 1024 ∧ (l.getD j Blk.z).pos + (l.getD j Blk.z).w.length ≤ cap ∧
    (0 < j → (l.getD (j - 1) Blk.z).pos + (l.getD (j - 1) Blk.z).w.length ≤ (l.getD j Blk.z).pos) ∧ ∀ k, k < j → (l.getD k Blk.z).id ≠ (l.getD j Blk.z).id
instance (cap : Int) (l : List Blk) (j : Nat) : Decidable (okAt cap l j) := by unfold okAt; exact inferInstance
def mMay (cap : Int) (l : List Blk) : Bool := decide (0 ≤ cap ∧ cap ≤ 1024 ∧ ∀ j, j < l.length → okAt cap l j)
theorem mMay_iff {cap : Int} {l : List Blk} : mMay cap l = true ↔ 0 ≤ cap ∧ cap ≤ 1024 ∧ ∀ j, j < l.length → okAt cap l j := by simp [mMay]
def inBlk (a : Int) (b : Blk) : Bool := decide (b.pos ≤ a) && decide (a < b.fin)
def ofM (l : List Blk) (a : Int) : Int := idxF (inBlk a) l
abbrev idM (l : List Blk) (id : Int) : Int := idxF (fun b => b.id == id) l
theorem okAt_step {cap : Int} {l : List Blk} {k : Nat} (h : ∀ j, j < k → okAt cap l j) (e : okAt cap l k) : ∀ j, j < k + 1 → okAt cap l j := fun j hj => by
  rcases Nat.lt_succ_iff_lt_or_eq.1 hj with h1 | h1
  · exact h j h1
  · subst h1; exact e
theorem may_yes13 {cap : Int} {l : List Blk} {k : Nat} (h0 : 0 ≤ cap) (h1 : cap ≤ 1024) (hk : l.length ≤ k) (h : ∀ j, j < k → okAt cap l j) : true = mMay cap l := (mMay_iff.2 ⟨h0, h1, fun j hj => h j (by omega)⟩).symm
theorem may_no13 {cap : Int} {l : List Blk} {k : Nat} (hk : k < l.length) (h : ¬ okAt cap l k) : false = mMay cap l := by
  cases hm : mMay cap l with
  | false => rfl
  | true => exact absurd ((mMay_iff.1 hm).2.2 k hk) h
theorem may_cap13 {cap : Int} {l : List Blk} (h : cap < 0 ∨ 1024 < cap) : false = mMay cap l := by
  cases hm : mMay cap l with
  | false => rfl
  | true => have := mMay_iff.1 hm; omega
theorem pos_bd {cap : Int} {l : List Blk} (hm : mMay cap l = true) (k : Nat) : 0 ≤ (l.getD k Blk.z).pos ∧ (l.getD k Blk.z).pos ≤ 1024 ∧ (l.getD k Blk.z).pos + (l.getD k Blk.z).w.length ≤ 1024 ∧ (l.getD k Blk.z).w.length ≤ 1024 := by
  by_cases hk : k < l.length
  · obtain ⟨h0, h1, h2⟩ := mMay_iff.1 hm
    obtain ⟨o1, o2, o3, o4, o5, o6, o7⟩ := h2 k hk
    omega
  · rw [show l.getD k Blk.z = Blk.z by simp [List.getElem?_eq_none (show l.length ≤ k by omega)]]; decide
theorem inBlk_f {a : Int} {b : Blk} (h : (decide (a ≥ b.pos) && decide (a - b.pos < (b.w.length : Int))) = false) : inBlk a b = false := by
  rw [Bool.and_eq_false_iff] at h
  unfold inBlk Blk.fin
  rw [Bool.and_eq_false_iff]
  simp only [decide_eq_false_iff_not] at h ⊢
  omega
theorem inBlk_t {a : Int} {b : Blk} (h : (decide (a ≥ b.pos) && decide (a - b.pos < (b.w.length : Int))) = true) : inBlk a b = true := by
  rw [Bool.and_eq_true] at h
  unfold inBlk Blk.fin
  rw [Bool.and_eq_true]
  simp only [decide_eq_true_eq] at h ⊢
  omega
/-- Are n addresses from one on of no block? -/
def freeM (cap : Int) (l : List Blk) (a n : Int) : Bool := decide (0 ≤ a ∧ a ≤ cap ∧ n ≤ cap - a) && (List.range n.toNat).all fun k => decide (ofM l (a + k) < 0)
theorem free_no {cap : Int} {l : List Blk} {a n : Int} {k : Nat} (hk : (k : Int) < n) (h : ofM l (a + k) ≥ 0) : false = freeM cap l a n := by
  symm
  unfold freeM
  rw [Bool.and_eq_false_iff]
  right
  rw [List.all_eq_false]
  exact ⟨k, List.mem_range.2 (by omega), by simp; omega⟩
theorem free_out {cap : Int} {l : List Blk} {a n : Int} (h : a < 0 ∨ a > cap ∨ n > cap - a) : false = freeM cap l a n := by
  symm
  unfold freeM
  rw [Bool.and_eq_false_iff]
  left
  simp; omega
theorem free_yes {cap : Int} {l : List Blk} {a n : Int} {k : Nat} (hk : n ≤ k) (h0 : 0 ≤ a) (h1 : a ≤ cap) (h2 : n ≤ cap - a) (h : ∀ j, j < k → ofM l (a + (j : Nat)) < 0) : true = freeM cap l a n := by
  symm
  unfold freeM
  rw [Bool.and_eq_true, List.all_eq_true]
  refine ⟨by simp; omega, fun j hj => ?_⟩
  have := List.mem_range.1 hj
  simpa using h j (by omega)
/-- The document's Find, address by address. -/
def rFindF (cap : Int) (l : List Blk) (n : Int) : Nat → Nat → Int × Bool
  | 0, _ => (0, false)
  | m + 1, a => if freeM cap l a n = true then ((a : Int), true) else rFindF cap l n m (a + 1)
def rFindM (cap : Int) (l : List Blk) (n : Int) : Int × Bool := if mMay cap l = true ∧ 1 ≤ n then rFindF cap l n cap.toNat 0 else (0, false)
def rLeftM (cap : Int) (l : List Blk) : Int := if mMay cap l = true then (((List.range cap.toNat).filter fun a => decide (ofM l (a : Nat) < 0)).length : Int) else 0
def newM (cap : Int) : Int × Int := if 0 ≤ cap ∧ cap ≤ 1024 then (cap, 0) else (0, 1)
theorem blk_max {w : World} {A : Option Addr} {n : Nat} {p : List Blk} (h : kBlk.C w A n p) (j : Nat) : (p.getD j Blk.z).w.length ≤ 9223372036854775807 := by
  by_cases hj : j < p.length
  · have hn := h.1
    obtain ⟨ad, e, hc⟩ := h.2.2 (by omega)
    obtain ⟨cs, h1, h2, h3⟩ := hc j (p.getD j Blk.z) (by simp [hj])
    obtain ⟨A1, c1, rfl, hl, hC⟩ := kBlk_open h2
    exact hC.2.1
  · have e : p.getD j Blk.z = Blk.z := by simp [List.getElem?_eq_none (show p.length ≤ j by omega)]
    rw [e]; simp [Blk.z]
theorem ne_step {f : Nat → Int} {y : Int} {k : Nat} (h : ∀ j, j < k → f j ≠ y) (e : f k ≠ y) : ∀ j, j < k + 1 → f j ≠ y := fun j hj => by
  rcases Nat.lt_succ_iff_lt_or_eq.1 hj with h1 | h1
  · exact h j h1
  · subst h1; exact e
theorem lt_step {f : Nat → Int} {k : Nat} (h : ∀ j, j < k → f j < 0) (e : f k < 0) : ∀ j, j < k + 1 → f j < 0 := fun j hj => by
  rcases Nat.lt_succ_iff_lt_or_eq.1 hj with h1 | h1
  · exact h j h1
  · subst h1; exact e
theorem below_heap {wr w : World} (h : Below wr.heap.size wr w) {p : Nat} {o : Obj} (hp : wr.heap[p]? = some o) : w.heap[p]? = some o := (h.block p (Array.getElem?_eq_some_iff.1 hp).1).trans hp
theorem rFindF_at {cap : Int} {l : List Blk} {n : Int} : ∀ (m a k : Nat), a ≤ k → k < a + m → (∀ j : Nat, a ≤ j → j < k → freeM cap l (j : Int) n = false) → freeM cap l (k : Int) n = true → rFindF cap l n m a = ((k : Int), true)
  | 0, a, k, h1, h2, _, _ => by omega
  | m + 1, a, k, h1, h2, h3, h4 => by
    unfold rFindF
    by_cases e : a = k
    · subst e; rw [if_pos h4]
    · rw [if_neg (by rw [h3 a (Nat.le_refl _) (by omega)]; decide)]
      exact rFindF_at m (a + 1) k (by omega) (by omega) (fun j h5 h6 => h3 j (by omega) h6) h4
theorem rFindF_no {cap : Int} {l : List Blk} {n : Int} : ∀ (m a : Nat), (∀ j : Nat, a ≤ j → j < a + m → freeM cap l (j : Int) n = false) → rFindF cap l n m a = (0, false)
  | 0, a, _ => rfl
  | m + 1, a, h3 => by
    unfold rFindF
    rw [if_neg (by rw [h3 a (Nat.le_refl _) (by omega)]; decide)]
    exact rFindF_no m (a + 1) (fun j h5 h6 => h3 j (by omega) (by omega))
theorem rfind_at {cap : Int} {l : List Blk} {n : Int} {k : Nat} (hm : mMay cap l = true) (hn : 1 ≤ n) (hk : (k : Int) < cap) (h : ∀ j, j < k → freeM cap l (j : Int) n = false) (e : freeM cap l (k : Int) n = true) : rFindM cap l n = ((k : Int), true) := by
  unfold rFindM
  rw [if_pos ⟨hm, hn⟩]
  exact rFindF_at _ 0 k (Nat.zero_le _) (by omega) (fun j _ hj => h j hj) e
theorem rfind_no {cap : Int} {l : List Blk} {n : Int} {k : Nat} (hk : (decide ((k : Int) < cap) && mMay cap l && decide (n ≥ 1)) = false) (h : ∀ j, j < k → freeM cap l (j : Int) n = false) : rFindM cap l n = (0, false) := by
  unfold rFindM
  split
  · rename_i hc
    refine rFindF_no _ 0 fun j _ hj => h j ?_
    rw [hc.1] at hk
    simp only [Bool.and_true, Bool.and_eq_false_iff, decide_eq_false_iff_not] at hk
    omega
  · rfl
theorem ff_step {f : Nat → Bool} {k : Nat} (h : ∀ j, j < k → f j = false) (e : f k = false) : ∀ j, j < k + 1 → f j = false := fun j hj => by
  rcases Nat.lt_succ_iff_lt_or_eq.1 hj with h1 | h1
  · exact h j h1
  · subst h1; exact e
def leftF (l : List Blk) (k : Nat) : Nat := ((List.range k).filter fun a => decide (ofM l (a : Nat) < 0)).length
theorem leftF_zero (l : List Blk) : leftF l 0 = 0 := rfl
theorem leftF_yes {l : List Blk} {k : Nat} (h : ofM l (k : Nat) < 0) : leftF l (k + 1) = leftF l k + 1 := by
  unfold leftF
  rw [List.range_succ, List.filter_append]
  simp [h]
theorem leftF_no {l : List Blk} {k : Nat} (h : ¬ ofM l (k : Nat) < 0) : leftF l (k + 1) = leftF l k := by
  unfold leftF
  rw [List.range_succ, List.filter_append]
  simp [h]
theorem leftF_le (l : List Blk) (k : Nat) : leftF l k ≤ k := by
  unfold leftF
  have := List.length_filter_le (fun a : Nat => decide (ofM l (a : Nat) < 0)) (List.range k)
  simpa using this
theorem rleft_eq {cap : Int} {l : List Blk} {k : Nat} (hk : (decide ((k : Int) < cap) && mMay cap l) = false) (hle : k ≤ cap.toNat) (h0 : 0 < k → mMay cap l = true) : ((leftF l k : Nat) : Int) = rLeftM cap l := by
  unfold rLeftM
  split
  · rename_i hm
    rw [hm] at hk
    simp only [Bool.and_true, decide_eq_false_iff_not] at hk
    have : k = cap.toNat := by omega
    rw [this]; rfl
  · rename_i hm
    have : k = 0 := by
      rcases Nat.eq_zero_or_pos k with h | h
      · exact h
      · exact absurd (h0 h) hm
    rw [this]; rfl
theorem newM_iff (cap : Int) : (newM cap).2 = 0 ↔ (0 ≤ cap ∧ cap ≤ 1024) := by
  unfold newM; split <;> simp_all <;> omega
def lastP (l : List Blk) (k : Nat) : Int := if k = 0 then 0 else (l.getD (k - 1) Blk.z).fin
theorem lastP_bd {cap : Int} {l : List Blk} {k : Nat} (hc : cap ≤ 1024) (h : ∀ j, j < k → okAt cap l j) : 0 ≤ lastP l k ∧ lastP l k ≤ 1024 := by
  unfold lastP
  split
  · omega
  · obtain ⟨o1, o2, o3, o4, o5, o6, o7⟩ := h (k - 1) (by omega)
    unfold Blk.fin; omega
theorem lastP_next (l : List Blk) (k : Nat) : (l.getD k Blk.z).fin = lastP l (k + 1) := by simp [lastP]
theorem idM_self {l : List Blk} {k : Nat} (hk : k < l.length) : idM l (l.getD k Blk.z).id = (k : Int) ↔ ∀ j, j < k → (l.getD j Blk.z).id ≠ (l.getD k Blk.z).id := by
  constructor
  · intro h j hj e
    unfold idM idxF at h
    split at h
    · rename_i i hi
      rw [List.findIdx?_eq_some_iff_getElem] at hi
      obtain ⟨hlt, _, hno⟩ := hi
      obtain rfl : i = k := by omega
      have := hno j hj
      have e1 : l.getD j Blk.z = l[j]'(by omega) := by simp [show j < l.length by omega]
      rw [e1] at e
      simp only [beq_iff_eq] at this
      exact this e
    · omega
  · intro h
    exact (idxF_at (p := fun b => b.id == (l.getD k Blk.z).id) (z := Blk.z) hk (fun j hj => beq_eq_false_iff_ne.2 (h j hj)) (beq_self_eq_true _)).symm
theorem okAt_mk {cap : Int} {l : List Blk} {k : Nat} (hk : k < l.length) (hl : 0 ≤ lastP l k) (h1 : 1 ≤ (l.getD k Blk.z).id) (h2 : idM l (l.getD k Blk.z).id = (k : Int)) (h3 : 1 ≤ (l.getD k Blk.z).w.length) (h4 : lastP l k ≤ (l.getD k Blk.z).pos) (hc : cap ≤ 1024) (h5 : (l.getD k Blk.z).pos + (l.getD k Blk.z).w.length ≤ cap) : okAt cap l k := by
  refine ⟨h1, h3, by omega, by omega, h5, fun h0 => ?_, (idM_self hk).1 h2⟩
  unfold lastP at h4
  rw [if_neg (by omega)] at h4
  exact h4
theorem okAt_last {cap : Int} {l : List Blk} {k : Nat} (h : okAt cap l k) : lastP l k ≤ (l.getD k Blk.z).pos := by
  obtain ⟨o1, o2, o3, o4, o5, o6, o7⟩ := h
  unfold lastP
  split
  · exact o3
  · exact o6 (by omega)
/-- Where an address is: in the n-th block, its q-th word. -/
structure WordAt (l : List Blk) (a : Int) (n q : Nat) : Prop where
  lt : n < l.length
  qt : q < (l.getD n Blk.z).w.length
  eq : a = (l.getD n Blk.z).pos + q
  of : ofM l a = (n : Int)
theorem ofM_cases (l : List Blk) (a : Int) : ofM l a = -1 ∨ ∃ n q : Nat, WordAt l a n q := by
  unfold ofM idxF
  cases h : l.findIdx? (inBlk a) with
  | none => exact .inl rfl
  | some i =>
    right
    have h' := h
    rw [List.findIdx?_eq_some_iff_getElem] at h
    obtain ⟨hi, hp, hno⟩ := h
    have e1 : l.getD i Blk.z = l[i] := by simp [hi]
    unfold inBlk Blk.fin at hp
    rw [Bool.and_eq_true] at hp
    simp only [decide_eq_true_eq] at hp
    refine ⟨i, (a - l[i].pos).toNat, hi, by rw [e1]; omega, by rw [e1]; omega, ?_⟩
    unfold ofM idxF
    rw [h']
def fetchM (cap : Int) (l : List Blk) (a : Int) : Int × Int × Bool :=
  if mMay cap l = true ∧ 0 ≤ ofM l a then ((l.getD (ofM l a).toNat Blk.z).w.getD (a - (l.getD (ofM l a).toNat Blk.z).pos).toNat 0, (l.getD (ofM l a).toNat Blk.z).id, true) else (0, 0, false)
theorem fetch_at {cap : Int} {l : List Blk} {a : Int} {n q : Nat} (hm : mMay cap l = true) (hw : WordAt l a n q) : fetchM cap l a = ((l.getD n Blk.z).w.getD q 0, (l.getD n Blk.z).id, true) := by
  unfold fetchM
  rw [if_pos ⟨hm, by rw [hw.of]; omega⟩, hw.of, Int.toNat_natCast]
  have : (a - (l.getD n Blk.z).pos).toNat = q := by have := hw.eq; omega
  rw [this]
theorem fetch_no {cap : Int} {l : List Blk} {a : Int} (h : mMay cap l = false ∨ ofM l a = -1) : fetchM cap l a = (0, 0, false) := by
  unfold fetchM
  rw [if_neg]
  rintro ⟨h1, h2⟩
  rcases h with h | h
  · rw [h] at h1; cases h1
  · omega
def fewM (l : List Blk) : Bool := decide (l.length ≤ 40) && l.all fun b => decide (b.w.length ≤ 700)
def fewMTo (l : List Blk) (k : Nat) : Bool := decide (l.length ≤ 40) && (l.take k).all fun b => decide (b.w.length ≤ 700)
theorem fewMTo_zero (l : List Blk) : fewMTo l 0 = decide ((l.length : Int) ≤ 40) := by
  unfold fewMTo
  simp only [List.take_zero, List.all_nil, Bool.and_true]
  exact decide_eq_decide.2 (by omega)
theorem fewMTo_all {l : List Blk} {k : Nat} (h : l.length ≤ k) : fewMTo l k = fewM l := by
  unfold fewMTo fewM
  rw [List.take_of_length_le h]
theorem fewMTo_no {l : List Blk} {k : Nat} (h : fewMTo l k = false) : fewM l = false := by
  unfold fewMTo at h
  unfold fewM
  rw [Bool.and_eq_false_iff] at h ⊢
  refine h.imp id fun h => ?_
  rw [List.all_eq_false] at h ⊢
  obtain ⟨x, hx, hn⟩ := h
  exact ⟨x, List.mem_of_mem_take hx, hn⟩
theorem fewMTo_step {l : List Blk} {k : Nat} (hk : k < l.length) (h : fewMTo l k = true) : decide (((l.getD k Blk.z).w.length : Int) ≤ 700) = fewMTo l (k + 1) := by
  have e : l.getD k Blk.z = l[k] := by simp [hk]
  rw [e]
  unfold fewMTo at h ⊢
  rw [List.take_succ_eq_append_getElem hk, List.all_append]
  rw [Bool.and_eq_true] at h
  rw [h.1, h.2]
  simp only [List.all_cons, List.all_nil, Bool.and_true, Bool.true_and]
  exact decide_eq_decide.2 (by omega)
theorem fewM_bd {l : List Blk} (h : fewM l = true) : l.length ≤ 40 ∧ ∀ j, (l.getD j Blk.z).w.length ≤ 700 := by
  simp only [fewM, Bool.and_eq_true, decide_eq_true_eq, List.all_eq_true] at h
  refine ⟨h.1, fun j => ?_⟩
  by_cases hj : j < l.length
  · exact h.2 _ (at_mem Blk.z hj)
  · rw [show l.getD j Blk.z = Blk.z by simp [List.getElem?_eq_none (show l.length ≤ j by omega)]]; decide
theorem blk_ext {a b : Blk} (h1 : a.id = b.id) (h2 : a.pos = b.pos) (h3 : a.w = b.w) : a = b := by cases a; cases b; simp_all
theorem set_mid {α : Type} {us vs : List α} {k : Nat} (x : α) (hk : us.length = k) (hv : k < vs.length) : (us ++ vs.drop k).set k x = (us ++ [x]) ++ vs.drop (k + 1) := by
  subst hk
  rw [List.set_append_right _ _ (Nat.le_refl _), Nat.sub_self, List.drop_eq_getElem_cons hv, List.set_cons_zero, List.append_assoc]
  rfl
theorem get_mid {us vs : List RawG} {k : Nat} (hk : us.length = k) (hv : k < vs.length) : (us ++ vs.drop k).getD k rawG0 = vs.getD k rawG0 := by
  subst hk
  rw [List.getD_eq_getElem?_getD, List.getElem?_append_right (Nat.le_refl _), Nat.sub_self, List.getElem?_drop, Nat.add_zero]
  rfl
theorem len_mid {us vs : List RawG} {k : Nat} (hk : us.length = k) (hv : k ≤ vs.length) : (us ++ vs.drop k).length = vs.length := by
  rw [List.length_append, List.length_drop]; omega
/-- A raw block, opened. -/
theorem rawB_open {w : World} {v : RawG} {x : Blk} (h : RawR SB w v x) : ∃ A c, v = ([.int .i64 x.id, .int .i64 x.pos], A, x.w.length, c) ∧ x.w.length ≤ c ∧ kW.C w A x.w.length x.w := by
  obtain ⟨h1, h2, h3, h4⟩ := h
  obtain ⟨a, b, n, c⟩ := v
  simp only [SB] at h1 h2 h3 h4
  subst h1 h2
  exact ⟨b, c, rfl, h3, h4⟩
end Go.Proofs.Ytfknhbgghpbkpaa
