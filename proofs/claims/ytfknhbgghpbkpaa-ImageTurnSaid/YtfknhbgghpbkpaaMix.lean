/- Rows of functions, of which some have their code elsewhere; parts of rows in regions that draw. -/
import Derived.Test.YtfknhbgghpbkpaaInst6
namespace Go.Proofs.Ytfknhbgghpbkpaa
open Go.RowKit Cal Go.Proofs.YtfknhbgghpbkpaaW.PrintWords
abbrev MixE := Fn ⊕ (Int × Option Addr × Nat × Nat)
def MixE.out (v : Int × Option Addr × Nat × Nat) : List Value := [.int .i64 v.1, .slice v.2.1 v.2.2.1 v.2.2.2]
def kMix : Kd MixE where
  sz := 2
  E := kFn.E
  K := fun w x cs => match x with | .inl f => kFn.K w f cs | .inr v => cs = MixE.out v
  M := fun w base ok x cs => match x with | .inl f => kFn.M w base ok f cs | .inr v => cs = MixE.out v
  K_len := fun {w x cs} h => by
    cases x with
    | inl f => exact kFn.K_len h
    | inr v => simp only at h; rw [h]; rfl
  K_one := fun {w x cs} h u hu => by
    cases x with
    | inl f => exact kFn.K_one h u hu
    | inr v =>
      simp only at h
      rw [h] at hu
      simp only [MixE.out, List.mem_cons, List.not_mem_nil, or_false] at hu
      rcases hu with rfl | rfl <;> rfl
  K_below := fun {w w1 x cs} hb h => by
    cases x with
    | inl f => exact kFn.K_below hb h
    | inr v => exact h
  K_of_M := fun {w base ok x cs} h => by
    cases x with
    | inl f => exact kFn.K_of_M h
    | inr v => exact h
  M_mono := fun {w base ok ok' x cs} ho h => by
    cases x with
    | inl f => exact kFn.M_mono ho h
    | inr v => exact h
  M_bound := fun {w base ok x cs} h => by
    cases x with
    | inl f => exact kFn.M_bound h
    | inr v => exact h
  M_move := fun {w w1 base ok x cs} hm h => by
    cases x with
    | inl f => exact kFn.M_move hm h
    | inr v => exact h
  M_lower := fun {w base base' ok x cs} hb h => by
    cases x with
    | inl f => exact kFn.M_lower hb h
    | inr v => exact h
def MixE.z : MixE := .inl Fn.z
def MixR (w : World) : MixE → Fn → Prop
  | .inl f, g => f = g
  | .inr v, g => v.1 = g.args ∧ v.2.2.1 = g.code.length ∧ g.code.length ≤ v.2.2.2 ∧ kInst.C w v.2.1 g.code.length g.code
theorem kFn_make {w : World} {g : Fn} {A : Option Addr} {c : Nat} (hl : g.code.length ≤ c) (hC : kInst.C w A g.code.length g.code) : kFn.K w g [.int .i64 g.args, .slice A g.code.length c] :=
  ⟨[_], [_], rfl, rfl, A, c, rfl, hl, hC⟩
theorem mix_K {w : World} {x : MixE} {g : Fn} {cs : List Value} (h : kMix.K w x cs) (hr : MixR w x g) : kFn.K w g cs := by
  cases x with
  | inl f => cases hr; exact h
  | inr v =>
    obtain ⟨h1, h2, h3, h4⟩ := hr
    have h : cs = MixE.out v := h
    rw [h]
    unfold MixE.out
    rw [h1, h2]
    exact kFn_make h3 h4
theorem mix_C {w : World} {A : Option Addr} {xs : List MixE} {fs : List Fn} (h : kMix.C w A xs.length xs) (hl : xs.length = fs.length) (hr : ∀ j, j < fs.length → MixR w (xs.getD j MixE.z) (fs.getD j Fn.z)) : kFn.C w A fs.length fs := by
  refine ⟨rfl, by have := h.2.1; omega, fun hp => ?_⟩
  obtain ⟨ad, e, hc⟩ := h.2.2 (by omega)
  refine ⟨ad, e, fun j g hj => ?_⟩
  obtain ⟨hlt, hg⟩ := List.getElem?_eq_some_iff.1 hj
  have hx : xs[j]? = some xs[j] := List.getElem?_eq_getElem (by omega)
  obtain ⟨cs, h1, h2, h3⟩ := hc j _ hx
  refine ⟨cs, h1, mix_K h2 ?_, h3⟩
  have := hr j hlt
  rw [show fs.getD j Fn.z = g by simp [hlt, hg], show xs.getD j MixE.z = xs[j] by simp [show j < xs.length by omega]] at this
  exact this
/-- A row of functions of its own, as a row that others may join. -/
theorem mix_row {e : TypeId} {v : Value} {fs : List Fn} {wr w : World} {L : List Ent} (M : Mem wr w (row kFn e v fs :: L)) : Mem wr w (row kMix e v (fs.map Sum.inl) :: L) :=
  M.imp fun S _ h => by
    obtain ⟨h0, inner, ho, hr⟩ := h
    refine ⟨h0, inner, by rw [List.length_map]; exact ho, ?_⟩
    refine ⟨by rw [List.length_map]; exact hr.1, fun j p hj => ?_⟩
    rw [List.getElem?_map] at hj
    cases hq : fs[j]? with
    | none => rw [hq] at hj; cases hj
    | some f =>
      rw [hq] at hj
      simp only [Option.map_some, Option.some.injEq] at hj
      subst hj
      exact hr.2 j f hq
theorem parts_C {w : World} {A Af : Option Addr} {p : List Fn} {f : Fn} {cf : Nat} (h : kMix.C w A (p.map Sum.inl ++ [Sum.inr (f.args, Af, f.code.length, cf)]).length (p.map Sum.inl ++ [Sum.inr (f.args, Af, f.code.length, cf)])) (hF : kInst.C w Af f.code.length f.code) (hcf : f.code.length ≤ cf) :
    kFn.C w A (p ++ [f]).length (p ++ [f]) := by
  refine mix_C h (by simp) fun j hj => ?_
  rcases Nat.lt_or_ge j p.length with hlt | hge
  · have e1 : (p.map Sum.inl ++ [Sum.inr (f.args, Af, f.code.length, cf)] : List MixE).getD j MixE.z = Sum.inl (p.getD j Fn.z) := by
      simp [List.getElem?_append_left, hlt]
    have e2 : (p ++ [f]).getD j Fn.z = p.getD j Fn.z := by simp [List.getElem?_append_left, hlt]
    rw [e1, e2]; rfl
  · have hj' : j = p.length := by simp only [List.length_append, List.length_singleton] at hj; omega
    subst hj'
    have e1 : (p.map Sum.inl ++ [Sum.inr (f.args, Af, f.code.length, cf)] : List MixE).getD p.length MixE.z = Sum.inr (f.args, Af, f.code.length, cf) := by simp
    have e2 : (p ++ [f]).getD p.length Fn.z = f := by simp
    rw [e1, e2]
    exact ⟨rfl, rfl, hcf, hF⟩
/-! ### parts of rows, in any world -/
section
variable {P : Program} {α : Type} {d : Kd α} {e T : TypeId} {xs : List α}
theorem cutm (hu : P.underlying T = some (.slice e)) (hs : (P.info? e).map (·.size) = some d.sz) (A : Option Addr) (xs : List α) (c l h : Nat) (kl kh : IntKind) (hlh : l ≤ h) (hh : h ≤ xs.length) (hc : xs.length ≤ c) :
    ∃ A', (∀ w, (Instr.sliceAt T (.slice A xs.length c) (some (.int kl (l : Int))) (some (.int kh (h : Int))) none).run P w = .ok (.slice A' ((xs.take h).drop l).length (c - l)) w) ∧ (∀ w, d.C w A xs.length xs → d.C w A' ((xs.take h).drop l).length ((xs.take h).drop l)) ∧ ((xs.take h).drop l).length ≤ c - l := by
  obtain ⟨inf, hi0, hsz⟩ := Option.map_eq_some_iff.1 hs
  have hlen : ((xs.take h).drop l).length = h - l := by rw [List.length_drop, List.length_take]; omega
  refine ⟨_, fun w => ?_, fun w hC => Kd.C_mid hC hlh hh hc, by omega⟩
  have hr := cut_mid T e kl kh hu hi0 d.sz hsz A xs.length c (l : Int) (h : Int) (by omega) (by omega) (by omega) hc w
  simp only [Int.toNat_natCast] at hr
  rw [← hlen] at hr
  exact (run_sliceAt hu _ _ _ _ w).trans hr
theorem cutf (hu : P.underlying T = some (.slice e)) (hs : (P.info? e).map (·.size) = some d.sz) (A : Option Addr) (xs : List α) (c l : Nat) (kl : IntKind) (hl : l ≤ xs.length) (hc : xs.length ≤ c) :
    ∃ A', (∀ w, (Instr.sliceAt T (.slice A xs.length c) (some (.int kl (l : Int))) none none).run P w = .ok (.slice A' (xs.drop l).length (c - l)) w) ∧ (∀ w, d.C w A xs.length xs → d.C w A' (xs.drop l).length (xs.drop l)) ∧ (xs.drop l).length ≤ c - l := by
  obtain ⟨inf, hi0, hsz⟩ := Option.map_eq_some_iff.1 hs
  have hlen : (xs.drop l).length = xs.length - l := List.length_drop
  refine ⟨_, fun w => ?_, fun w hC => Kd.C_drop hC hl hc, by omega⟩
  have hr := cut_from T e kl hu hi0 d.sz hsz A xs.length c (l : Int) (by omega) (by omega) w
  simp only [Int.toNat_natCast] at hr
  rw [← hlen] at hr
  exact (run_sliceAt hu _ _ _ _ w).trans hr
theorem cutt (hu : P.underlying T = some (.slice e)) (hs : (P.info? e).map (·.size) = some d.sz) (A : Option Addr) (xs : List α) (c h : Nat) (kh : IntKind) (hh : h ≤ xs.length) (hc : xs.length ≤ c) :
    ∃ A', (∀ w, (Instr.sliceAt T (.slice A xs.length c) none (some (.int kh (h : Int))) none).run P w = .ok (.slice A' (xs.take h).length c) w) ∧ (∀ w, d.C w A xs.length xs → d.C w A' (xs.take h).length (xs.take h)) ∧ (xs.take h).length ≤ c := by
  obtain ⟨inf, hi0, hsz⟩ := Option.map_eq_some_iff.1 hs
  have hlen : (xs.take h).length = h := by rw [List.length_take]; omega
  refine ⟨A, fun w => ?_, fun w hC => Kd.C_take hC hh, by omega⟩
  have hr := cut_to T e kh hu hi0 A xs.length c (h : Int) (by omega) (by omega) hc w
  simp only [Int.toNat_natCast] at hr
  rw [hlen]
  exact (run_sliceAt hu _ _ _ _ w).trans hr
end
/-! ### the plain law of ProgParts -/
theorem progBytes_isB {p : List Fn} (h : progMay p = true) (hi : ∀ f ∈ p, ∀ x ∈ f.code, 0 ≤ x.imm) : True := trivial
theorem parts_may {p : List Fn} {f : Fn} (h : progMay (p ++ [f]) = true) (h0 : p.length ≠ 0) : progMay p = true := by
  simp only [progMay, List.length_append, List.length_singleton, List.all_append, Bool.and_eq_true, decide_eq_true_eq, beq_iff_eq] at h ⊢
  refine ⟨⟨⟨by omega, by omega⟩, ?_⟩, h.2.1⟩
  have : (p ++ [f]).getD 0 Fn.z = p.getD 0 Fn.z := by simp [List.getElem?_append_left, show 0 < p.length by omega]
  rw [this] at h
  exact h.1.2
theorem progBytes_snoc (p : List Fn) (f : Fn) : progBytes (p ++ [f]) = [88, 86, ((p.length + 1 : Nat) : Int) % 256] ++ (p.flatMap fnBytes ++ fnBytes f) := by
  simp [progBytes, List.flatMap_append]
theorem progBytes_len (p : List Fn) : (progBytes p).length = 3 + (p.flatMap fnBytes).length := by simp [progBytes]; omega
theorem parts_len (p : List Fn) (f : Fn) : (progBytes (p ++ [f])).length = (progBytes p).length + (fnBytes f).length := by
  rw [progBytes_len, progBytes_len, List.flatMap_append]; simp [List.flatMap_cons]; omega
theorem fnBytes_pos (f : Fn) : 2 ≤ (fnBytes f).length := by simp [fnBytes]
theorem progBytes_2 (p : List Fn) : (progBytes p).getD 2 0 = (p.length : Int) % 256 := rfl
theorem parts_2 {p : List Fn} {f : Fn} (h : (p ++ [f]).length ≤ 8) : (progBytes (p ++ [f])).getD 2 0 = (progBytes p).getD 2 0 + 1 := by
  rw [progBytes_2, progBytes_2]
  simp only [List.length_append, List.length_singleton] at h ⊢
  omega
theorem parts_bytes (p : List Fn) (f : Fn) : (progBytes p).drop 3 = ((progBytes (p ++ [f])).take (progBytes p).length).drop 3 := by
  have e1 : progBytes p = [88, 86, (p.length : Int) % 256] ++ p.flatMap fnBytes := rfl
  rw [progBytes_snoc, progBytes_len, e1]
  have e2 : ([88, 86, ((p.length + 1 : Nat) : Int) % 256] ++ (p.flatMap fnBytes ++ fnBytes f)).take (3 + (p.flatMap fnBytes).length) = [88, 86, ((p.length + 1 : Nat) : Int) % 256] ++ p.flatMap fnBytes := by
    rw [← List.append_assoc]
    exact List.take_left' (by simp only [List.length_append, List.length_cons, List.length_nil])
  rw [e2]; rfl
theorem parts_same (p : List Fn) (f : Fn) : decide (p = p ++ [f]) = false := by
  rw [decide_eq_false_iff_not]
  intro h
  have := congrArg List.length h
  simp at this
end Go.Proofs.Ytfknhbgghpbkpaa
