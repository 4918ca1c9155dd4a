/- A small calculus for walking the model's code with frames as short lists of slots: segments of plain operations are run by the kernel, memory and calls go by laws. -/
import Derived.Test.YtfknhbgghpbkpaaWWords
import Derived.KernelRfl
namespace Go.Proofs.Ytfknhbgghpbkpaa.Cal
open Go.RowKit
/-- What is known of a frame: slots and their values. -/
abbrev Fr := List (Nat × Value)
def look : Fr → Nat → Option Value
  | [], _ => none
  | (j, v) :: r, i => bif Nat.beq j i then some v else look r i
def gv (j : Nat → Value) (fr : Fr) (t : Nat) : Value := (look fr t).getD (j t)
def ev (j : Nat → Value) (fr : Fr) : Operand → Value
  | .tmp t => gv j fr t
  | .const v => v
  | .global g => .pointer (some ⟨g, 0, none⟩)
  | .func f => .func (.func f) #[] #[]
structure On (dm : List Deferred) (N : Nat) (j : Nat → Value) (fr : Fr) (a : Act) : Prop where
  size : a.tmps.size = N
  defers : a.defers = dm
  get : ∀ t, a.tmps.getD t undef = gv j fr t
theorem On.eval {dm : List Deferred} {N : Nat} {j : Nat → Value} {fr : Fr} {a : Act} (h : On dm N j fr a) : a.eval = ev j fr := by
  funext x
  cases x with
  | tmp t => exact h.get t
  | _ => rfl
theorem blt_lt {d N : Nat} (h : Nat.blt d N = true) : d < N := Nat.le_of_ble_eq_true h
theorem lt_blt {d N : Nat} (h : d < N) : Nat.blt d N = true := Nat.ble_eq_true_of_le h
theorem beq_ne {d t : Nat} (h : d ≠ t) : Nat.beq d t = false := by
  cases hq : Nat.beq d t with
  | false => rfl
  | true => exact absurd (Nat.eq_of_beq_eq_true hq) h
theorem look_cons (d : Nat) (v : Value) (fr : Fr) (t : Nat) : look ((d, v) :: fr) t = if d = t then some v else look fr t := by
  show (bif Nat.beq d t then some v else look fr t) = _
  by_cases h : d = t
  · subst h; simp
  · simp [beq_ne h, h]
theorem On.put {dm : List Deferred} {N : Nat} {j : Nat → Value} {fr : Fr} {a : Act} (h : On dm N j fr a) (d : Nat) (v : Value) (hd : d < N) : On dm N j ((d, v) :: fr) (a.put (some d) v) where
  size := by simp [Act.put, h.size]
  defers := h.defers
  get t := by
    show (a.tmps.setIfInBounds d v).getD t undef = _
    unfold gv
    rw [look_cons]
    by_cases e : d = t
    · subst e
      simp [h.size, hd]
    · have := h.get t
      rw [if_neg e]
      simp only [Array.getD_eq_getD_getElem?] at this ⊢
      rw [Array.getElem?_setIfInBounds_ne e, this, gv]
/-- The slots that go on. -/
def keep : List Nat → Fr → Fr
  | [], _ => []
  | d :: ds, fr => match look fr d with
    | some v => (d, v) :: keep ds fr
    | none => keep ds fr
theorem look_keep (ds : List Nat) (fr : Fr) (t : Nat) : look (keep ds fr) t = none ∨ look (keep ds fr) t = look fr t := by
  induction ds with
  | nil => exact .inl rfl
  | cons d ds ih =>
    unfold keep
    split
    · rename_i v hv
      rw [look_cons]
      split
      · rename_i e; subst e; exact .inr hv.symm
      · exact ih
    · exact ih
/-- Of fewer slots more is open. -/
def Sub (fr' fr : Fr) : Prop := ∀ t, look fr' t = none ∨ look fr' t = look fr t
theorem Sub.on {dm : List Deferred} {N : Nat} {j : Nat → Value} {fr fr' : Fr} {a : Act} (hs : Sub fr' fr) (h : On dm N j fr a) : On dm N (gv j fr) fr' a where
  size := h.size
  defers := h.defers
  get t := by
    rw [h.get t]
    show _ = (look fr' t).getD (gv j fr t)
    rcases hs t with e | e
    · rw [e]; rfl
    · rw [e]
      cases hq : look fr t with
      | none => rfl
      | some v => simp [gv, hq]
theorem Sub.nil (fr : Fr) : Sub [] fr := fun _ => .inl rfl
theorem Sub.cons {fr' fr : Fr} {d : Nat} {v : Value} (h : look fr d = some v) (hs : Sub fr' fr) : Sub ((d, v) :: fr') fr := fun t => by
  rw [look_cons]
  split
  · rename_i e; subst e; exact .inr h.symm
  · exact hs t

/-! ### guards, one operation, a segment -/
def yl (N : Nat) (all : Array Oper) (j : Nat → Value) (fr : Fr) (i : Nat) : Option Bool :=
  match (all[i]?).bind (·.dst) with
  | some d => bif Nat.blt d N then (match gv j fr d with | .bool b => some b | _ => none) else none
  | none => none
theorem yl_eq {dm : List Deferred} {N : Nat} {all : Array Oper} {j : Nat → Value} {fr : Fr} {a : Act} (h : On dm N j fr a) (i : Nat) : yielded all a.tmps i = yl N all j fr i := by
  unfold yielded yl
  cases hd : (all[i]?).bind (·.dst) with
  | none => rfl
  | some d =>
    simp only [Option.bind_some]
    by_cases hlt : d < N
    · have hb : Nat.blt d N = true := lt_blt hlt
      have hg := h.get d
      have hs : d < a.tmps.size := by rw [h.size]; exact hlt
      rw [hb, cond_true, ← hg]
      simp only [Array.getElem?_eq_getElem hs, Array.getD_eq_getD_getElem?, Option.getD_some]
      cases a.tmps[d] <;> rfl
    · have hb : Nat.blt d N = false := by
        cases hq : Nat.blt d N with
        | false => rfl
        | true => exact absurd (blt_lt hq) hlt
      have hn : a.tmps[d]? = none := by simp only [Array.getElem?_eq_none_iff, h.size]; exact Nat.le_of_not_lt hlt
      rw [hn, hb]
      rfl
def put1 (N : Nat) (d : Option Nat) (v : Value) (fr : Fr) : Option Fr :=
  match d with
  | some d => bif Nat.blt d N then some ((d, v) :: fr) else none
  | none => some fr
theorem put1_on {dm : List Deferred} {N : Nat} {j : Nat → Value} {fr fr' : Fr} {a : Act} {d : Option Nat} {v : Value} (h : On dm N j fr a) (hp : put1 N d v fr = some fr') : On dm N j fr' (a.put d v) := by
  cases d with
  | none => simp only [put1, Option.some.injEq] at hp; subst hp; exact h
  | some d =>
    unfold put1 at hp
    cases hb : Nat.blt d N with
    | false => simp [hb] at hp
    | true =>
      simp only [hb, cond_true, Option.some.injEq] at hp
      subst hp
      exact h.put d v (blt_lt hb)
def step1 (P : Program) (N : Nat) (all : Array Oper) (o : Oper) (j : Nat → Value) (fr : Fr) (w : World) : Option (Fr × World) :=
  match Region.wanted o (yl N all j fr) with
  | true => match (execOp (ev j fr) o).run P w with
    | .ok (.value v) w' => (put1 N o.dst v fr).map (·, w')
    | .ok .skip w' => (put1 N o.dst undef fr).map (·, w')
    | _ => none
  | false => (put1 N o.dst undef fr).map (·, w)
def seg (P : Program) (N : Nat) (all : Array Oper) (j : Nat → Value) : List Oper → Nat → Fr → World → Option (Fr × World)
  | _, 0, fr, w => some (fr, w)
  | [], _ + 1, _, _ => none
  | o :: ops, n + 1, fr, w => match step1 P N all o j fr w with
    | some (fr', w') => seg P N all j ops n fr' w'
    | none => none
theorem step1_sound {dm : List Deferred} {P : Program} {N : Nat} {all : Array Oper} {o : Oper} {j : Nat → Value} {fr fr' : Fr} {w w' : World} {Q : Exit → Act → World → Prop} {rest : List Oper}
    (h : step1 P N all o j fr w = some (fr', w')) (hk : ∀ a, On dm N j fr' a → wpList P all Q rest a w') (a : Act) (ha : On dm N j fr a) : wpList P all Q (o :: rest) a w := by
  unfold wpList
  have hy : yielded all a.tmps = yl N all j fr := funext (yl_eq ha)
  rw [hy]
  unfold step1 at h
  cases hw : Region.wanted o (yl N all j fr) with
  | false =>
    rw [hw] at h
    simp only [Bool.false_eq_true, if_false]
    simp only [Option.map_eq_some_iff, Prod.mk.injEq] at h
    obtain ⟨f, hf, rfl, rfl⟩ := h
    exact hk _ (put1_on ha hf)
  | true =>
    rw [hw] at h
    simp only [if_true]
    left
    unfold Oper.wp
    rw [ha.eval]
    revert h
    simp only
    split
    · rename_i v w1 hr
      intro h
      simp only [Option.map_eq_some_iff, Prod.mk.injEq] at h
      obtain ⟨f, hf, rfl, rfl⟩ := h
      rw [hr]
      exact hk _ (put1_on ha hf)
    · rename_i w1 hr
      intro h
      simp only [Option.map_eq_some_iff, Prod.mk.injEq] at h
      obtain ⟨f, hf, rfl, rfl⟩ := h
      rw [hr]
      exact hk _ (put1_on ha hf)
    · intro h; cases h
theorem seg_sound {dm : List Deferred} {P : Program} {N : Nat} {all : Array Oper} {j : Nat → Value} {Q : Exit → Act → World → Prop} :
    ∀ (n : Nat) (ops : List Oper) (fr fr' : Fr) (w w' : World), seg P N all j ops n fr w = some (fr', w') → (∀ a, On dm N j fr' a → wpList P all Q (ops.drop n) a w') → ∀ a, On dm N j fr a → wpList P all Q ops a w
  | 0, ops, fr, fr', w, w', h, hk, a, ha => by
    simp only [seg, Option.some.injEq, Prod.mk.injEq] at h
    obtain ⟨rfl, rfl⟩ := h
    exact hk a ha
  | n + 1, [], fr, fr', w, w', h, hk, a, ha => by simp [seg] at h
  | n + 1, o :: ops, fr, fr', w, w', h, hk, a, ha => by
    unfold seg at h
    split at h
    · rename_i f1 w1 h1
      exact step1_sound h1 (seg_sound n ops f1 fr' w1 w' h hk) a ha
    · cases h

/-! ### what is still to be done -/
inductive It where
  | code (c : Code)
  | blk (id : Nat)
  | inv (I : Act → World → Prop)
def cont (P : Program) (Q : Exit → Act → World → Prop) : List It → Exit → Act → World → Prop
  | [] => Q
  | .code c :: k => Exit.then (c.wp P (cont P Q k)) (cont P Q k)
  | .blk id :: k => Exit.inBlock id (cont P Q k)
  | .inv I :: k => Exit.then I (cont P Q k)
/-- At operation i of a region. -/
def TO (dm : List Deferred) (P : Program) (N : Nat) (Q : Exit → Act → World → Prop) (all : Array Oper) (k : List It) (fr : Fr) (w : World) (i : Nat) : Prop :=
  ∀ j a, On dm N j fr a → wpList P all (cont P Q k) (all.toList.drop i) a w
/-- At a code. -/
def TC (dm : List Deferred) (P : Program) (N : Nat) (Q : Exit → Act → World → Prop) (c : Code) (k : List It) (fr : Fr) (w : World) : Prop :=
  ∀ j a, On dm N j fr a → c.wp P (cont P Q k) a w
/-- Behind it. -/
def TN (dm : List Deferred) (P : Program) (N : Nat) (Q : Exit → Act → World → Prop) (k : List It) (fr : Fr) (w : World) : Prop :=
  ∀ j a, On dm N j fr a → cont P Q k .normal a w
/-- At a return. -/
def TR (dm : List Deferred) (N : Nat) (Q : Exit → Act → World → Prop) (fr : Fr) (w : World) : Prop := ∀ j a, On dm N j fr a → Q .ret a w
section
variable {dm : List Deferred} {P : Program} {N : Nat} {Q : Exit → Act → World → Prop} {k : List It} {fr fr' : Fr} {w w' : World}
theorem TO.sub {all : Array Oper} {i : Nat} (hs : Sub fr' fr) (h : TO dm P N Q all k fr' w i) : TO dm P N Q all k fr w i := fun _ a ha => h _ a (hs.on ha)
theorem TC.sub {c : Code} (hs : Sub fr' fr) (h : TC dm P N Q c k fr' w) : TC dm P N Q c k fr w := fun _ a ha => h _ a (hs.on ha)
theorem TN.sub (hs : Sub fr' fr) (h : TN dm P N Q k fr' w) : TN dm P N Q k fr w := fun _ a ha => h _ a (hs.on ha)
theorem tc_seq {x y : Code} (h : TC dm P N Q x (.code y :: k) fr w) : TC dm P N Q (.seq x y) k fr w := fun j a ha => wp_seq (h j a ha)
theorem tc_region {id : Nat} {ops : Array Oper} (h : TO dm P N Q ops k fr w 0) : TC dm P N Q (.region id ops false) k fr w := fun j a ha => wp_region_list (h j a ha)
theorem tc_block {id : Nat} {c : Code} (h : TC dm P N Q c (.blk id :: k) fr w) : TC dm P N Q (.block id c) k fr w := fun j a ha => wp_block (h j a ha)
theorem tc_skip (h : TN dm P N Q k fr w) : TC dm P N Q .skip k fr w := fun j a ha => wp_skip (h j a ha)
theorem tc_exit {id : Nat} (h : ∀ j a, On dm N j fr a → cont P Q k (.exit id) a w) : TC dm P N Q (.exit id) k fr w := fun j a ha => wp_exit (h j a ha)
theorem cont_ret (a : Act) (w : World) : ∀ k : List It, cont P Q k .ret a w = Q .ret a w
  | [] => rfl
  | .code _ :: k => cont_ret a w k
  | .blk _ :: k => cont_ret a w k
  | .inv _ :: k => cont_ret a w k
theorem tc_ret (h : TR dm N Q fr w) : TC dm P N Q .ret k fr w := fun j a ha => wp_ret (by rw [cont_ret]; exact h j a ha)
/-- where an exit goes. -/
def exitK (id : Nat) : List It → Option (List It)
  | [] => none
  | .blk i :: k => bif Nat.beq i id then some k else exitK id k
  | _ :: k => exitK id k
theorem exitK_sound {id : Nat} {a : Act} {w : World} : ∀ (k k' : List It), exitK id k = some k' → cont P Q k' .normal a w → cont P Q k (.exit id) a w
  | [], _, h, _ => by cases h
  | .blk i :: k, k', h, hk => by
    show (if id = i then cont P Q k .normal a w else cont P Q k (.exit id) a w)
    unfold exitK at h
    by_cases e : i = id
    · subst e
      simp at h
      subst h
      simpa using hk
    · rw [beq_ne e, cond_false] at h
      rw [if_neg (fun e' => e e'.symm)]
      exact exitK_sound k k' h hk
  | .code _ :: k, k', h, hk => exitK_sound k k' h hk
  | .inv _ :: k, k', h, hk => exitK_sound k k' h hk
theorem tc_exitK {id : Nat} {k' : List It} (he : exitK id k = some k') (h : TN dm P N Q k' fr w) : TC dm P N Q (.exit id) k fr w :=
  tc_exit fun j a ha => exitK_sound k k' he (h j a ha)
theorem tn_code {c : Code} (h : TC dm P N Q c k fr w) : TN dm P N Q (.code c :: k) fr w := fun j a ha => h j a ha
theorem tn_blk {id : Nat} (h : TN dm P N Q k fr w) : TN dm P N Q (.blk id :: k) fr w := fun j a ha => h j a ha
theorem tn_inv {I : Act → World → Prop} (h : ∀ j a, On dm N j fr a → I a w) : TN dm P N Q (.inv I :: k) fr w := fun j a ha => h j a ha
theorem tc_cond {c : Operand} {x y : Code} {b : Bool} (hb : ∀ j, ev j fr c = .bool b) (h1 : b = true → TC dm P N Q x k fr w) (h2 : b = false → TC dm P N Q y k fr w) : TC dm P N Q (.cond c x y) k fr w :=
  fun j a ha => wp_cond_split (by rw [ha.eval]; exact hb j) (fun e => h1 e j a ha) (fun e => h2 e j a ha)
theorem tc_cond_t {c : Operand} {x y : Code} (hb : ∀ j, ev j fr c = .bool true) (h1 : TC dm P N Q x k fr w) : TC dm P N Q (.cond c x y) k fr w := tc_cond hb (fun _ => h1) (fun e => by cases e)
theorem tc_cond_f {c : Operand} {x y : Code} (hb : ∀ j, ev j fr c = .bool false) (h1 : TC dm P N Q y k fr w) : TC dm P N Q (.cond c x y) k fr w := tc_cond hb (fun e => by cases e) (fun _ => h1)
theorem to_end {all : Array Oper} {i : Nat} (hi : all.toList.drop i = []) (h : TN dm P N Q k fr w) : TO dm P N Q all k fr w i := fun j a ha => by
  rw [hi]; exact h j a ha
/-- A segment: run by the kernel. -/
theorem to_seg {all : Array Oper} {i : Nat} (n : Nat) (ds : List Nat) (hs : ∀ j, (seg P N all j (all.toList.drop i) n fr w).map (fun r => (keep ds r.1, r.2)) = some (fr', w')) (h : TO dm P N Q all k fr' w' (i + n)) : TO dm P N Q all k fr w i := fun j a ha => by
  have hj := hs j
  cases hq : seg P N all j (all.toList.drop i) n fr w with
  | none => rw [hq] at hj; cases hj
  | some r =>
    obtain ⟨f1, w1⟩ := r
    rw [hq] at hj
    simp only [Option.map_some, Option.some.injEq, Prod.mk.injEq] at hj
    obtain ⟨rfl, rfl⟩ := hj
    refine seg_sound n _ fr f1 w w1 hq (fun a' ha' => ?_) a ha
    rw [List.drop_drop]
    exact h _ a' (Sub.on (fun t => look_keep ds f1 t) ha')
/-- One operation by its run. -/
theorem to_op {all : Array Oper} {i : Nat} {o : Oper} (ho : all.toList[i]? = some o) (hw : ∀ j, Region.wanted o (yl N all j fr) = true) {v : Value} (hr : ∀ j, (execOp (ev j fr) o).run P w = .ok (.value v) w')
    (hp : put1 N o.dst v fr = some fr') (h : TO dm P N Q all k fr' w' (i + 1)) : TO dm P N Q all k fr w i := fun j a ha => by
  have hd : all.toList.drop i = o :: all.toList.drop (i + 1) := by
    obtain ⟨hlt, he⟩ := List.getElem?_eq_some_iff.1 ho
    rw [List.drop_eq_getElem_cons hlt, he]
  rw [hd]
  refine step1_sound (j := j) (fr := fr) (fr' := fr') (w' := w') ?_ (fun a' ha' => h j a' ha') a ha
  unfold step1
  rw [hw j, hr j]
  simp [hp]
theorem to_op_skip {all : Array Oper} {i : Nat} {o : Oper} (ho : all.toList[i]? = some o) (hw : ∀ j, Region.wanted o (yl N all j fr) = true) (hr : ∀ j, (execOp (ev j fr) o).run P w = .ok .skip w')
    (hp : o.dst = none) (h : TO dm P N Q all k fr w' (i + 1)) : TO dm P N Q all k fr w i := fun j a ha => by
  have hd : all.toList.drop i = o :: all.toList.drop (i + 1) := by
    obtain ⟨hlt, he⟩ := List.getElem?_eq_some_iff.1 ho
    rw [List.drop_eq_getElem_cons hlt, he]
  rw [hd]
  refine step1_sound (j := j) (fr := fr) (fr' := fr) (w' := w') ?_ (fun a' ha' => h j a' ha') a ha
  unfold step1
  rw [hw j, hr j]
  simp [hp, put1]
/-- A call by its contract. -/
theorem to_call {all : Array Oper} {i : Nat} {o : Oper} {F : FuncId} {args : Array Value} (ho : all.toList[i]? = some o) (hw : ∀ j, Region.wanted o (yl N all j fr) = true) (hr : ∀ j, (execOp (ev j fr) o).run P w = .ok (.enter F args) w)
    {R : Ending → World → Prop} (hc : Calls P F args w R) (d : Nat) (hd : o.dst = some d) (hN : Nat.blt d N = true)
    (h : ∀ e w', R e w' → ∃ v, e = .returned v ∧ TO dm P N Q all k ((d, v) :: fr) w' (i + 1)) : TO dm P N Q all k fr w i := fun j a ha => by
  have hdr : all.toList.drop i = o :: all.toList.drop (i + 1) := by
    obtain ⟨hlt, he⟩ := List.getElem?_eq_some_iff.1 ho
    rw [List.drop_eq_getElem_cons hlt, he]
  rw [hdr]
  unfold wpList
  have hy : yielded all a.tmps = yl N all j fr := funext (yl_eq ha)
  rw [hy, hw j]
  simp only [if_true]
  left
  unfold Oper.wp
  rw [ha.eval, hr j, Oper.upon_enter]
  refine hc.mono fun e w' he => ?_
  obtain ⟨v, rfl, ht⟩ := h e w' he
  show wpList P all (cont P Q k) (all.toList.drop (i + 1)) (a.put o.dst v) w'
  rw [hd]
  exact ht j _ (ha.put d v (blt_lt hN))
/-- A call that gives nothing back. -/
theorem to_call0 {all : Array Oper} {i : Nat} {o : Oper} {F : FuncId} {args : Array Value} (ho : all.toList[i]? = some o) (hw : ∀ j, Region.wanted o (yl N all j fr) = true) (hr : ∀ j, (execOp (ev j fr) o).run P w = .ok (.enter F args) w)
    {R : Ending → World → Prop} (hc : Calls P F args w R) (hd : o.dst = none)
    (h : ∀ e w', R e w' → (∃ v, e = .returned v) ∧ TO dm P N Q all k fr w' (i + 1)) : TO dm P N Q all k fr w i := fun j a ha => by
  have hdr : all.toList.drop i = o :: all.toList.drop (i + 1) := by
    obtain ⟨hlt, he⟩ := List.getElem?_eq_some_iff.1 ho
    rw [List.drop_eq_getElem_cons hlt, he]
  rw [hdr]
  unfold wpList
  have hy : yielded all a.tmps = yl N all j fr := funext (yl_eq ha)
  rw [hy, hw j]
  simp only [if_true]
  left
  unfold Oper.wp
  rw [ha.eval, hr j, Oper.upon_enter]
  refine hc.mono fun e w' he => ?_
  obtain ⟨⟨v, rfl⟩, ht⟩ := h e w' he
  show wpList P all (cont P Q k) (all.toList.drop (i + 1)) (a.put o.dst v) w'
  rw [hd]
  exact ht j _ ha
/-- A loop: its state s, the frame and the world at its head, a measure. -/
theorem tc_loop {c : Code} {σ : Type} (F : σ → Fr) (I : σ → World → Prop) (m : σ → Nat) (s0 : σ) (hf : Sub (F s0) fr) (h0 : I s0 w)
    (round : ∀ s w, I s w → TC dm P N Q c (.inv (fun a' w' => ∃ s' j, On dm N j (F s') a' ∧ I s' w' ∧ m s' < m s) :: k) (F s) w) : TC dm P N Q (.loop c) k fr w := fun j a ha => by
  intro b kk cs
  have key : ∀ n s a w, m s = n → (∃ j, On dm N j (F s) a) → I s w →
      ∃ e a' w', cont P Q k e a' w' ∧ Arrives P (lone (b.at a (.code c :: .inLoop c :: kk)) cs w) b kk cs e a' w' := by
    intro n
    induction n using Nat.strongRecOn with
    | _ n ih =>
      intro s a w hn ⟨j, hj⟩ hI
      obtain ⟨e, a₁, w₁, hq, harr⟩ := round s w hI j a hj b (.inLoop c :: kk) cs
      cases e with
      | normal =>
        obtain ⟨s', j', hj', hI', hlt⟩ := hq
        obtain ⟨e₂, a₂, w₂, hq₂, harr₂⟩ := ih (m s') (hn ▸ hlt) s' a₁ w₁ rfl ⟨j', hj'⟩ hI'
        exact ⟨e₂, a₂, w₂, hq₂, .of_steps (Steps.trans harr (.one step_inLoop)) harr₂⟩
      | exit id => exact ⟨_, a₁, w₁, hq, .pass (x := .inLoop c) rfl (fun _ _ => .inl (by simp)) harr⟩
      | goto l => exact ⟨_, a₁, w₁, hq, .pass (x := .inLoop c) rfl (fun _ _ => .inl (by simp)) harr⟩
      | ret => exact ⟨_, a₁, w₁, hq, .pass (x := .inLoop c) rfl (fun _ _ => .inl (by simp)) harr⟩
      | panic ch => exact ⟨_, a₁, w₁, hq, .pass (x := .inLoop c) rfl (fun _ _ => .inl (by simp)) harr⟩
      | outgrown => exact ⟨_, a₁, w₁, hq, .pass (x := .inLoop c) rfl (fun _ _ => .inl (by simp)) harr⟩
  obtain ⟨e, a', w', hq, harr⟩ := key _ s0 a w rfl ⟨_, hf.on ha⟩ h0
  exact ⟨e, a', w', hq, .of_steps (.one step_loop) harr⟩
theorem tn_back {σ : Type} {F : σ → Fr} {I : σ → World → Prop} {m : σ → Nat} {s : σ} (s' : σ) (hs : Sub (F s') fr) (hI : I s' w) (hm : m s' < m s) :
    TN dm P N Q (.inv (fun a' w' => ∃ s' j, On dm N j (F s') a' ∧ I s' w' ∧ m s' < m s) :: k) fr w := tn_inv fun _ _ ha => ⟨s', _, hs.on ha, hI, hm⟩
end
/-- A function is entered. -/
def fr0 : Nat → List Value → Fr
  | _, [] => []
  | i, v :: vs => (i, v) :: fr0 (i + 1) vs
theorem look_fr0 : ∀ (vs : List Value) (i t : Nat), look (fr0 i vs) t = if i ≤ t then vs[t - i]? else none
  | [], i, t => by simp [fr0, look]
  | v :: vs, i, t => by
    rw [fr0, look_cons, look_fr0 vs (i + 1) t]
    by_cases h : i = t
    · subst h; simp
    · rw [if_neg h]
      by_cases hle : i ≤ t
      · rw [if_pos hle, if_pos (by omega)]
        have : t - i = (t - (i + 1)) + 1 := by omega
        rw [this, List.getElem?_cons_succ]
      · rw [if_neg hle, if_neg (by omega)]
theorem calls_tc {P : Program} {f : FuncId} {fn : Func} {c : Code} {args : List Value} {w : World} {R : Ending → World → Prop} {N : Nat} (hf : P.funcs[f]? = some fn) (hb : fn.body = some c) (hN : fn.ntmps = N) (hl : Nat.ble args.length N = true)
    (h : TC [] P N (bodyPost P fn R) c [] (fr0 0 args) w) : Calls P f args.toArray w R := by
  have hle : args.length ≤ N := Nat.le_of_ble_eq_true hl
  refine calls_of_wp hf hb (h (fun _ => undef) _ ⟨?_, rfl, fun t => ?_⟩)
  · simp [hN]; omega
  · simp only [gv, look_fr0, Nat.zero_le, if_true, Nat.sub_zero, Array.getD_eq_getD_getElem?, Array.getElem?_append, List.size_toArray, List.getElem?_toArray]
    split
    · rfl
    · rename_i hlt
      rw [List.getElem?_eq_none (by omega)]
      simp only [Array.getElem?_replicate, Option.getD_none]
      split <;> rfl
end Go.Proofs.Ytfknhbgghpbkpaa.Cal
