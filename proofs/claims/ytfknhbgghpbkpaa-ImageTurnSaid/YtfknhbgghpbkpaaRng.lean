/- Ranges over functions in the calculus: a round's body, the marks on the way out, the rule. -/
import Derived.Test.YtfknhbgghpbkpaaApart
import Derived.Test.YtfknhbgghpbkpaaJoin
import Derived.RangeFuncNested
import Derived.RangeFuncLeaves
import Derived.RangeFuncCalls
import Derived.Shelf.Abstract
namespace Go.Proofs.Ytfknhbgghpbkpaa.Cal
open Go.RowKit Go.Proofs.YtfknhbgghpbkpaaW.PrintWords
/-- The fence that keeps nothing out, in a round or not. -/
def rF (o : Option Nat) : Fence := { Fence.wide with round := o }
theorem calls_rF {o : Option Nat} {n : Nat} {P : Program} {f : FuncId} {args : Array Value} {w : World} {R : Ending → World → Prop} (h : Calls P f args w R) : CallsIn (rF o) n P f args w R := by
  cases o with
  | none => exact callsIn_wide.2 h
  | some l => exact CallsIn.inRound l (callsIn_wide.2 h)
def noDef (ops : List Oper) : Bool := ops.all fun o => match o.op with | .defer _ => false | _ => true
theorem rows_rF {o : Option Nat} {n : Nat} {P : Program} {row : String} {args : Array Value} {w : World} {R : Value → World → Prop} (h : Rows P row args w R) : RowsIn (rF o) n P row args w R := fun c cs _ => by
  obtain ⟨v, w', hR, hs⟩ := h c cs
  exact ⟨v, w', hR, stepsIn_wide.2 hs⟩
theorem opIn_of {r : Option Nat} {n : Nat} {P : Program} {o : Oper} {a : Act} {w : World} {next next' : Act → World → Prop} {Q : Exit → Act → World → Prop} (hn : ∀ a w, next a w → next' a w) (hd : ∀ c, o.op ≠ .defer c)
    (h : o.wp P a w next Q) : o.wpIn (rF r) n P a w next' Q := by
  refine ⟨fun _ _ => trivial, ?_⟩
  rw [Oper.semAt_eq _ _ _ hd]
  unfold Oper.wp at h
  revert h
  generalize (execOp a.eval o).run P w = res
  intro h
  cases res with
  | ok x w' =>
    cases x with
    | value v => exact hn _ _ h
    | skip => exact hn _ _ h
    | defer d => exact hn _ _ h
    | enter f args =>
      refine ⟨fun h => (by cases h), calls_rF (Calls.mono h ?_)⟩
      intro e w'' he
      cases e with
      | returned v => exact hn _ _ he
      | panicked ch => exact he
      | outgrown => exact he
    | row row args => exact ⟨fun h => (by cases h), rows_rF (h.mono fun v w'' he => hn _ _ he)⟩
    | _ => exact h.elim
  | halt x w' =>
    cases x with
    | panic v => exact h
    | _ => exact h.elim
theorem wpListIn_of {r : Option Nat} {n : Nat} {P : Program} {all : Array Oper} {Q : Exit → Act → World → Prop} (hQ : ∀ a w, ¬ Q .outgrown a w) : ∀ (ops : List Oper) (a : Act) (w : World), noDef ops = true → wpList P all Q ops a w → wpListIn (rF r) n P all Q ops a w
  | [], _, _, _, h => h
  | o :: ops, a, w, hd, h => by
    unfold noDef at hd
    simp only [List.all_cons, Bool.and_eq_true] at hd
    unfold wpList at h
    unfold wpListIn
    by_cases hw : Region.wanted o (yielded all a.tmps) = true
    · rw [if_pos hw] at h ⊢
      rcases h with h | ⟨_, a', w', h⟩
      · exact opIn_of (fun a w hh => wpListIn_of hQ ops a w hd.2 hh) (fun c e => by rw [e] at hd; exact absurd hd.1 (by simp)) h
      · exact absurd h (hQ _ _)
    · rw [if_neg hw] at h ⊢
      exact ⟨fun _ _ => trivial, wpListIn_of hQ ops _ w hd.2 h⟩
def contI (r : Option Nat) (n : Nat) (P : Program) (Q : Exit → Act → World → Prop) : List It → Exit → Act → World → Prop
  | [] => Q
  | .code c :: k => Exit.then (c.wpIn (rF r) n P (contI r n P Q k)) (contI r n P Q k)
  | .blk id :: k => Exit.inBlock id (contI r n P Q k)
  | .inv I :: k => Exit.then I (contI r n P Q k)
def TCi (r : Option Nat) (n : Nat) (dm : List Deferred) (P : Program) (N : Nat) (Q : Exit → Act → World → Prop) (c : Code) (k : List It) (fr : Fr) (w : World) : Prop :=
  ∀ j a, On dm N j fr a → c.wpIn (rF r) n P (contI r n P Q k) a w
def TNi (r : Option Nat) (n : Nat) (dm : List Deferred) (P : Program) (N : Nat) (Q : Exit → Act → World → Prop) (k : List It) (fr : Fr) (w : World) : Prop :=
  ∀ j a, On dm N j fr a → contI r n P Q k .normal a w
/-- At operation i of a region that calls yield. -/
def TOi (r : Option Nat) (n : Nat) (dm : List Deferred) (P : Program) (N : Nat) (Q : Exit → Act → World → Prop) (all : Array Oper) (k : List It) (fr : Fr) (w : World) (i : Nat) : Prop :=
  ∀ j a, On dm N j fr a → wpListIn (rF r) n P all (contI r n P Q k) (all.toList.drop i) a w
section
variable {r : Option Nat} {n : Nat} {dm : List Deferred} {P : Program} {N : Nat} {Q : Exit → Act → World → Prop} {k : List It} {fr fr' : Fr} {w w' : World} {all : Array Oper} {i : Nat} {o : Oper}
theorem contI_out (a : Act) (w : World) : ∀ k : List It, contI r n P Q k .outgrown a w = Q .outgrown a w
  | [] => rfl
  | .code _ :: k => contI_out a w k
  | .blk _ :: k => contI_out a w k
  | .inv _ :: k => contI_out a w k
theorem contI_ret (a : Act) (w : World) : ∀ k : List It, contI r n P Q k .ret a w = Q .ret a w
  | [] => rfl
  | .code _ :: k => contI_ret a w k
  | .blk _ :: k => contI_ret a w k
  | .inv _ :: k => contI_ret a w k
theorem contI_panic (c : List PanicEntry) (a : Act) (w : World) : ∀ k : List It, contI r n P Q k (.panic c) a w = Q (.panic c) a w
  | [] => rfl
  | .code _ :: k => contI_panic c a w k
  | .blk _ :: k => contI_panic c a w k
  | .inv _ :: k => contI_panic c a w k
theorem tci_sub {c : Code} (hs : Sub fr' fr) (h : TCi r n dm P N Q c k fr' w) : TCi r n dm P N Q c k fr w := fun _ a ha => h _ a (hs.on ha)
theorem tci_seq {x y : Code} (h : TCi r n dm P N Q x (.code y :: k) fr w) : TCi r n dm P N Q (.seq x y) k fr w := fun j a ha => wpIn_seq (h j a ha)
theorem tci_region {id : Nat} {ops : Array Oper} (hQ : ∀ a w, ¬ Q .outgrown a w) (h : TO dm P N (contI r n P Q k) ops [] fr w 0) (hd : noDef ops.toList = true := by kernel_rfl) : TCi r n dm P N Q (.region id ops false) k fr w := fun j a ha =>
  wpIn_region_list (wpListIn_of (fun a w h => hQ a w (by rw [contI_out] at h; exact h)) _ _ _ hd (h j a ha))
theorem tci_regionY {id : Nat} {ops : Array Oper} (h : TOi r n dm P N Q ops k fr w 0) : TCi r n dm P N Q (.region id ops false) k fr w := fun j a ha => wpIn_region_list (h j a ha)
theorem tn_i (h : TNi r n dm P N Q k fr w) : TN dm P N (contI r n P Q k) [] fr w := h
theorem tci_block {id : Nat} {c : Code} (h : TCi r n dm P N Q c (.blk id :: k) fr w) : TCi r n dm P N Q (.block id c) k fr w := fun j a ha => wpIn_block (h j a ha)
theorem tci_skip (h : TNi r n dm P N Q k fr w) : TCi r n dm P N Q .skip k fr w := fun j a ha => wpIn_skip (h j a ha)
theorem exitI_sound {id : Nat} {a : Act} {w : World} : ∀ (k k' : List It), exitK id k = some k' → contI r n P Q k' .normal a w → contI r n P Q k (.exit id) a w
  | [], _, h, _ => by cases h
  | .blk i :: k, k', h, hk => by
    show (if id = i then contI r n P Q k .normal a w else contI r n P Q k (.exit id) a w)
    unfold exitK at h
    by_cases e : i = id
    · subst e
      simp at h
      subst h
      simpa using hk
    · rw [beq_ne e, cond_false] at h
      rw [if_neg (fun e' => e e'.symm)]
      exact exitI_sound k k' h hk
  | .code _ :: k, k', h, hk => exitI_sound k k' h hk
  | .inv _ :: k, k', h, hk => exitI_sound k k' h hk
theorem tci_exitK {id : Nat} {k' : List It} (he : exitK id k = some k') (h : TNi r n dm P N Q k' fr w) : TCi r n dm P N Q (.exit id) k fr w :=
  fun j a ha => wpIn_exit (exitI_sound k k' he (h j a ha))
theorem tci_ret (h : TR dm N Q fr w) : TCi r n dm P N Q .ret k fr w := fun j a ha => wpIn_ret (by rw [contI_ret]; exact h j a ha)
theorem tci_cond {c : Operand} {x y : Code} {b : Bool} (hb : ∀ j, ev j fr c = .bool b) (h1 : b = true → TCi r n dm P N Q x k fr w) (h2 : b = false → TCi r n dm P N Q y k fr w) : TCi r n dm P N Q (.cond c x y) k fr w :=
  fun j a ha => wpIn_cond_split (by rw [ha.eval]; exact hb j) (fun e => h1 e j a ha) (fun e => h2 e j a ha)
theorem tci_cond_t {c : Operand} {x y : Code} (hb : ∀ j, ev j fr c = .bool true) (h1 : TCi r n dm P N Q x k fr w) : TCi r n dm P N Q (.cond c x y) k fr w := tci_cond hb (fun _ => h1) (fun e => by cases e)
theorem tci_cond_f {c : Operand} {x y : Code} (hb : ∀ j, ev j fr c = .bool false) (h1 : TCi r n dm P N Q y k fr w) : TCi r n dm P N Q (.cond c x y) k fr w := tci_cond hb (fun e => by cases e) (fun _ => h1)
theorem tni_code {c : Code} (h : TCi r n dm P N Q c k fr w) : TNi r n dm P N Q (.code c :: k) fr w := fun j a ha => h j a ha
theorem tni_blk {id : Nat} (h : TNi r n dm P N Q k fr w) : TNi r n dm P N Q (.blk id :: k) fr w := fun j a ha => h j a ha
theorem tni_inv {I : Act → World → Prop} (h : ∀ j a, On dm N j fr a → I a w) : TNi r n dm P N Q (.inv I :: k) fr w := fun j a ha => h j a ha
/-- A loop, likewise. -/
theorem tci_loop {c : Code} {σ : Type} (F : σ → Fr) (I : σ → World → Prop) (m : σ → Nat) (s0 : σ) (hf : Sub (F s0) fr) (h0 : I s0 w)
    (round : ∀ s w, I s w → TCi r n dm P N Q c (.inv (fun a' w' => ∃ s' j, On dm N j (F s') a' ∧ I s' w' ∧ m s' < m s) :: k) (F s) w) : TCi r n dm P N Q (.loop c) k fr w := fun j a ha => by
  intro b kk cs hro hb hr
  have key : ∀ q s a w, m s = q → (∃ j, On dm N j (F s) a) → I s w →
      ∃ e a' w', contI r n P Q k e a' w' ∧ ArrivesIn (Machine.fenced P (rF r)) P (lone (b.atR a (.code c :: .inLoop c :: kk)) cs w) b kk cs e a' w' := by
    intro q
    induction q using Nat.strongRecOn with
    | _ q ih =>
      intro s a w hn ⟨j, hj⟩ hI
      obtain ⟨e, a₁, w₁, hq, harr⟩ := round s w hI j a hj b (.inLoop c :: kk) cs hro hb hr
      cases e with
      | normal =>
        obtain ⟨s', j', hj', hI', hlt⟩ := hq
        obtain ⟨e₂, a₂, w₂, hq₂, harr₂⟩ := ih (m s') (hn ▸ hlt) s' a₁ w₁ rfl ⟨j', hj'⟩ hI'
        exact ⟨e₂, a₂, w₂, hq₂, .of_steps (StepsIn.trans harr (.one (fenced_calm hb hr rfl) stepR_inLoop)) harr₂⟩
      | exit id => exact ⟨_, a₁, w₁, hq, .pass (x := .inLoop c) rfl (fun _ _ => .inl (by simp)) harr⟩
      | goto l => exact ⟨_, a₁, w₁, hq, .pass (x := .inLoop c) rfl (fun _ _ => .inl (by simp)) harr⟩
      | ret => exact ⟨_, a₁, w₁, hq, .pass (x := .inLoop c) rfl (fun _ _ => .inl (by simp)) harr⟩
      | panic ch => exact ⟨_, a₁, w₁, hq, .pass (x := .inLoop c) rfl (fun _ _ => .inl (by simp)) harr⟩
      | outgrown => exact ⟨_, a₁, w₁, hq, .pass (x := .inLoop c) rfl (fun _ _ => .inl (by simp)) harr⟩
  obtain ⟨e, a', w', hq, harr⟩ := key _ s0 a w rfl ⟨_, hf.on ha⟩ h0
  exact ⟨e, a', w', hq, .of_steps (.one (fenced_calm hb hr rfl) stepR_loop) harr⟩
theorem tni_back {σ : Type} {F : σ → Fr} {I : σ → World → Prop} {m : σ → Nat} {s : σ} (s' : σ) (hs : Sub (F s') fr) (hI : I s' w) (hm : m s' < m s) :
    TNi r n dm P N Q (.inv (fun a' w' => ∃ s' j, On dm N j (F s') a' ∧ I s' w' ∧ m s' < m s) :: k) fr w := tni_inv fun _ _ ha => ⟨s', _, hs.on ha, hI, hm⟩
/-! ### a region with a call of yield, operation by operation -/
theorem toi_end {all : Array Oper} (hi : all.toList.drop i = []) (h : TNi r n dm P N Q k fr w) : TOi r n dm P N Q all k fr w i := fun j a ha => by
  rw [hi]; exact h j a ha
theorem stepI_sound {rest : List Oper} {j : Nat → Value} {Q : Exit → Act → World → Prop}
    (h : step1 P N all o j fr w = some (fr', w')) (hd : ∀ c, o.op ≠ .defer c) (hk : ∀ a, On dm N j fr' a → wpListIn (rF r) n P all Q rest a w') (a : Act) (ha : On dm N j fr a) : wpListIn (rF r) n P all Q (o :: rest) a w := by
  unfold wpListIn
  have hy : yielded all a.tmps = yl N all j fr := funext (yl_eq ha)
  rw [hy]
  unfold step1 at h
  cases hw : Region.wanted o (yl N all j fr) with
  | false =>
    rw [hw] at h
    simp only [Bool.false_eq_true, if_false]
    simp only [Option.map_eq_some_iff, Prod.mk.injEq] at h
    obtain ⟨f, hf, rfl, rfl⟩ := h
    exact ⟨fun _ _ => trivial, hk _ (put1_on ha hf)⟩
  | true =>
    rw [hw] at h
    simp only [if_true]
    refine ⟨fun _ _ => trivial, ?_⟩
    rw [Oper.semAt_eq _ _ _ hd, ha.eval]
    revert h
    simp only
    split
    · rename_i v w1 hr
      intro h
      simp only [Option.map_eq_some_iff, Prod.mk.injEq] at h
      obtain ⟨f, hf, rfl, rfl⟩ := h
      rw [hr]
      exact hk _ (put1_on ha hf)
    · rename_i w1 hr
      intro h
      simp only [Option.map_eq_some_iff, Prod.mk.injEq] at h
      obtain ⟨f, hf, rfl, rfl⟩ := h
      rw [hr]
      exact hk _ (put1_on ha hf)
    · intro h; cases h
theorem segI_sound {j : Nat → Value} {Q : Exit → Act → World → Prop} :
    ∀ (m : Nat) (ops : List Oper) (fr fr' : Fr) (w w' : World), noDef (ops.take m) = true → seg P N all j ops m fr w = some (fr', w') → (∀ a, On dm N j fr' a → wpListIn (rF r) n P all Q (ops.drop m) a w') → ∀ a, On dm N j fr a → wpListIn (rF r) n P all Q ops a w
  | 0, ops, fr, fr', w, w', _, h, hk, a, ha => by
    simp only [seg, Option.some.injEq, Prod.mk.injEq] at h
    obtain ⟨rfl, rfl⟩ := h
    exact hk a ha
  | m + 1, [], fr, fr', w, w', _, h, hk, a, ha => by simp [seg] at h
  | m + 1, o :: ops, fr, fr', w, w', hd, h, hk, a, ha => by
    unfold seg at h
    simp only [noDef, List.take_succ_cons, List.all_cons, Bool.and_eq_true] at hd
    split at h
    · rename_i f1 w1 h1
      exact stepI_sound h1 (fun c e => by rw [e] at hd; exact absurd hd.1 (by simp)) (segI_sound m ops f1 fr' w1 w' hd.2 h hk) a ha
    · cases h
theorem sgi {all : Array Oper} {i : Nat} (m : Nat) (ds : List Nat) (fr' : Fr) (h : TOi r n dm P N Q all k fr' w (i + m)) (hs : ∀ j, (seg P N all j (all.toList.drop i) m fr w).map (fun r => (keep ds r.1, r.2)) = some (fr', w) := by intro j; kernel_rfl)
    (hd : noDef ((all.toList.drop i).take m) = true := by kernel_rfl) : TOi r n dm P N Q all k fr w i := fun j a ha => by
  have hj := hs j
  cases hq : seg P N all j (all.toList.drop i) m fr w with
  | none => rw [hq] at hj; cases hj
  | some q =>
    obtain ⟨f1, w1⟩ := q
    rw [hq] at hj
    simp only [Option.map_some, Option.some.injEq, Prod.mk.injEq] at hj
    obtain ⟨rfl, rfl⟩ := hj
    refine segI_sound m _ fr f1 _ _ hd hq (fun a' ha' => ?_) a ha
    rw [List.drop_drop]
    exact h _ a' (Sub.on (fun t => look_keep ds f1 t) ha')
theorem toi_op {v : Value} (d : Nat) (hr : ∀ j, (execOp (ev j fr) o).run P w = .ok (.value v) w') (h : TOi r n dm P N Q all k ((d, v) :: fr) w' (i + 1)) (ho : all.toList[i]? = some o := by rfl) (hd : o.dst = some d := by rfl)
    (hw : ∀ j, Region.wanted o (yl N all j fr) = true := by intro j; rfl) (hnd : noDef [o] = true := by kernel_rfl) (hN : Nat.blt d N = true := by rfl) : TOi r n dm P N Q all k fr w i := fun j a ha => by
  have hdr : all.toList.drop i = o :: all.toList.drop (i + 1) := by
    obtain ⟨hlt, he⟩ := List.getElem?_eq_some_iff.1 ho
    rw [List.drop_eq_getElem_cons hlt, he]
  rw [hdr]
  refine stepI_sound (j := j) (fr := fr) (fr' := (d, v) :: fr) (w' := w') ?_ (fun c e => by unfold noDef at hnd; simp [e] at hnd) (fun a' ha' => h j a' ha') a ha
  unfold step1
  rw [hw j, hr j]
  simp [hd, put1, hN]
/-- A call of yield. -/
theorem toi_yield {l : Nat} {args : Array Value} {R : Ending → World → Prop} (d : Nat) (hy : YieldAt (rF r) (n - 1) P l args w R)
    (h : ∀ e w', R e w' → ∃ v, e = .returned v ∧ TOi r n dm P N Q all k ((d, v) :: fr) w' (i + 1))
    (hr : ∀ j, (execOp (ev j fr) o).run P w = (Instr.yield l args).run P w := by intro j; kernel_rfl) (ho : all.toList[i]? = some o := by rfl) (hd : o.dst = some d := by rfl)
    (hw : ∀ j, Region.wanted o (yl N all j fr) = true := by intro j; rfl) (hnd : noDef [o] = true := by kernel_rfl) (hN : Nat.blt d N = true := by rfl) : TOi r n dm P N Q all k fr w i := fun j a ha => by
  have hdr : all.toList.drop i = o :: all.toList.drop (i + 1) := by
    obtain ⟨hlt, he⟩ := List.getElem?_eq_some_iff.1 ho
    rw [List.drop_eq_getElem_cons hlt, he]
  rw [hdr]
  unfold wpListIn
  have hyl : yielded all a.tmps = yl N all j fr := funext (yl_eq ha)
  rw [hyl, hw j]
  simp only [if_true]
  refine ⟨fun _ _ => trivial, ?_⟩
  rw [Oper.semAt_eq _ _ _ (fun c e => by unfold noDef at hnd; simp [e] at hnd), ha.eval, hr j]
  obtain ⟨fn, tmps, assign, body, hy, hR⟩ := hy
  rw [hy]
  refine ⟨fun h => (by cases h), hR.mono fun e w' he => ?_⟩
  obtain ⟨v, rfl, ht⟩ := h e w' he
  show wpListIn _ _ P all (contI r n P Q k) (all.toList.drop (i + 1)) (a.put o.dst v) w'
  rw [hd]
  exact ht j _ (ha.put d v (blt_lt hN))
end
end Go.Proofs.Ytfknhbgghpbkpaa.Cal
