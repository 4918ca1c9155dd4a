/- The plain law of ProgSame: another instruction, other bytes. -/
import Derived.Test.YtfknhbgghpbkpaaInst9
import Derived.Test.YtfknhbgghpbkpaaOpen
namespace Go.Proofs.Ytfknhbgghpbkpaa
open Go.RowKit Cal Go.Proofs.YtfknhbgghpbkpaaW.PrintWords
theorem inst_inj {x y : Inst} (hx : instMay x = true) (hy : instMay y = true) (ox : x.ok) (oy : y.ok) (h : instBytes x = instBytes y) : x = y := by
  have bx := may_bd hx
  have by' := may_bd hy
  obtain ⟨_, _, _, _, _, x1, x2⟩ := ox
  obtain ⟨_, _, _, _, _, y1, y2⟩ := oy
  simp only [instBytes, List.cons.injEq, and_true] at h
  obtain ⟨h0, h1, h2, h3, h4, h5, h6, h7⟩ := h
  have e0 : x.op = y.op := by omega
  have e1 : x.fn = y.fn := by omega
  have e5 : x.off = y.off := by omega
  have e6 : x.imm = y.imm := by omega
  have e4 : x.reg = y.reg := by
    cases hr : x.reg <;> cases hs : y.reg <;> rw [hr, hs] at h1 <;> simp at h1 <;> first | rfl | omega
  rw [e4] at h1
  have e2 : x.dst = y.dst := by omega
  have e3 : x.src = y.src := by omega
  cases x; cases y
  simp only at e0 e1 e2 e3 e4 e5 e6
  subst e0 e1 e2 e3 e4 e5 e6
  rfl
theorem fm_inj {α β : Type} {f : α → List β} : ∀ {l m : List α}, l.length = m.length → (∀ j (h1 : j < l.length) (h2 : j < m.length), (f l[j]).length = (f m[j]).length) → l.flatMap f = m.flatMap f → ∀ j (h1 : j < l.length) (h2 : j < m.length), f l[j] = f m[j]
  | [], [], _, _, _, _, h1, _ => absurd h1 (Nat.not_lt_zero _)
  | x :: l, y :: m, hl, hf, he, j, h1, h2 => by
    rw [List.flatMap_cons, List.flatMap_cons] at he
    have h0 := List.append_inj he (hf 0 (by simp) (by simp))
    cases j with
    | zero => exact h0.1
    | succ j => exact fm_inj (by simpa using hl) (fun i a b => hf (i + 1) (by simpa using a) (by simpa using b)) h0.2 j (by simpa using h1) (by simpa using h2)
theorem fnBytes_len' (f : Fn) : (fnBytes f).length = 2 + 8 * f.code.length := by
  have : ∀ l : List Inst, (l.flatMap instBytes).length = 8 * l.length := by
    intro l
    induction l with
    | nil => rfl
    | cons x l ih => rw [List.flatMap_cons, List.length_append, ih, instBytes_len, List.length_cons]; omega
  simp only [fnBytes, List.length_append, List.length_cons, List.length_nil, this]
def setI (p : List Fn) (i k : Nat) (x : Inst) : List Fn := p.set i ⟨(p.getD i Fn.z).args, (p.getD i Fn.z).code.set k x⟩
theorem setI_at (p : List Fn) (i k : Nat) (x : Inst) {j : Nat} (hj : j < p.length) (h1 : j < (setI p i k x).length) : (setI p i k x)[j].code.length = p[j].code.length := by
  have h2 : j < (p.set i ⟨(p.getD i Fn.z).args, (p.getD i Fn.z).code.set k x⟩).length := h1
  show ((p.set i ⟨(p.getD i Fn.z).args, (p.getD i Fn.z).code.set k x⟩)[j]'h2).code.length = _
  rw [List.getElem_set]
  split
  · rename_i h; subst h
    simp [hj]
  · rfl
theorem setI_len (p : List Fn) (i k : Nat) (x : Inst) : (progBytes p).length = (progBytes (setI p i k x)).length := by
  have key : ∀ (l m : List Fn), l.length = m.length → (∀ j (h1 : j < l.length) (h2 : j < m.length), m[j].code.length = l[j].code.length) → (l.flatMap fnBytes).length = (m.flatMap fnBytes).length := by
    intro l
    induction l with
    | nil => intro m hl _; rw [List.eq_nil_of_length_eq_zero hl.symm]
    | cons a l ih =>
      intro m hl h
      cases m with
      | nil => simp at hl
      | cons b m =>
        rw [List.flatMap_cons, List.flatMap_cons, List.length_append, List.length_append, fnBytes_len', fnBytes_len', ih m (by simpa using hl) (fun j h1 h2 => h (j + 1) (by simpa using h1) (by simpa using h2))]
        have := h 0 (by simp) (by simp)
        simp only [List.getElem_cons_zero] at this
        omega
  rw [progBytes_len, progBytes_len, key p (setI p i k x) (by simp [setI]) (fun j h1 h2 => setI_at p i k x h1 h2)]
theorem setI_ne {p : List Fn} {i k : Nat} {x : Inst} (hi : i < p.length) (hk : k < (p.getD i Fn.z).code.length) (hne : (p.getD i Fn.z).code.getD k Inst.z ≠ x) (hp : progMay p = true) (hq : progMay (setI p i k x) = true) (ho : ∀ f ∈ p, f.ok) (hx : x.ok) : progBytes p ≠ progBytes (setI p i k x) := by
  intro h
  have e : p.getD i Fn.z = p[i] := by simp [hi]
  rw [e] at hk hne
  have hl : p.length = (setI p i k x).length := by simp [setI]
  have h1 : p.flatMap fnBytes = (setI p i k x).flatMap fnBytes := (List.append_inj h (by simp)).2
  have hiq : i < (setI p i k x).length := by omega
  have h2 := fm_inj hl (fun j a b => by rw [fnBytes_len', fnBytes_len', setI_at p i k x a b]) h1 i hi hiq
  have eq : (setI p i k x)[i] = ⟨p[i].args, p[i].code.set k x⟩ := by simp [setI, hi]
  rw [eq] at h2
  have h3 : p[i].code.flatMap instBytes = (p[i].code.set k x).flatMap instBytes := (List.append_inj h2 (by simp)).2
  have h4 := fm_inj (l := p[i].code) (m := p[i].code.set k x) (by simp) (fun _ _ _ => rfl) h3 k hk (by simpa using hk)
  rw [List.getElem_set_self] at h4
  have hf := (progMay_bd hp).2.2.2 p[i] (List.getElem_mem hi)
  have hfq := (progMay_bd hq).2.2.2 _ (List.getElem_mem hiq)
  rw [eq] at hfq
  have m1 := (fnMay_bd hf).2.2.2.2 _ (List.getElem_mem hk)
  have m2 := (fnMay_bd hfq).2.2.2.2 x (List.mem_set hk x)
  refine hne ?_
  rw [show p[i].code.getD k Inst.z = p[i].code[k] by simp [hk]]
  exact inst_inj m1 m2 ((ho _ (List.getElem_mem hi)).2 _ (List.getElem_mem hk)) hx h4
theorem setI_other {p : List Fn} {i k : Nat} {x : Inst} (hi : i < p.length) (hk : k < (p.getD i Fn.z).code.length) (hne : (p.getD i Fn.z).code.getD k Inst.z ≠ x) : p ≠ setI p i k x := by
  intro h
  have e : p.getD i Fn.z = p[i] := by simp [hi]
  rw [e] at hk hne
  have h1 : p[i] = (setI p i k x)[i]'(by rw [← h]; exact hi) := by congr 1
  rw [show (setI p i k x)[i]'(by rw [← h]; exact hi) = ⟨p[i].args, p[i].code.set k x⟩ by simp [setI, hi]] at h1
  have h2 := congrArg Fn.code h1
  simp only at h2
  refine hne ?_
  have h3 : p[i].code.getD k Inst.z = (p[i].code.set k x).getD k Inst.z := by rw [← h2]
  rw [h3]; simp [hk]
end Go.Proofs.Ytfknhbgghpbkpaa
