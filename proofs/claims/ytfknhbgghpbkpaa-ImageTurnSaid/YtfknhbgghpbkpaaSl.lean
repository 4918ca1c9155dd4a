/- Parts of rows; rows that are made; numbers out of bytes. -/
import Derived.Test.YtfknhbgghpbkpaaParts
namespace Go.Proofs.Ytfknhbgghpbkpaa
open Go.RowKit Cal Go.Proofs.YtfknhbgghpbkpaaW.PrintWords
namespace Cal
section
variable {dm : List Deferred} {P : Program} {N : Nat} {Q : Exit → Act → World → Prop} {k : List It} {fr fr' : Fr} {wr w : World} {L : List Ent} {all : Array Oper} {i : Nat} {o : Oper} {α : Type} {d : Kd α} {e : TypeId} {xs ys : List α}
theorem run_sliceAt {T : TypeId} (hu : P.underlying T = some (.slice e)) (x : Value) (lo hi mx : Option Value) (w : World) : (Instr.sliceAt T x lo hi mx).run P w = (Instr.slice T x lo hi mx).run P w := by
  simp [Instr.sliceAt, run_underlying hu]
theorem exec_slice {ρ : Operand → Value} {T : TypeId} {x : Operand} {lo hi : Option Operand} {vx v : Value} {vl vh : Option Value} (hop : o.op = .slice T x lo hi none) (hx : ρ x = vx) (hl : lo.map ρ = vl) (hh : hi.map ρ = vh)
    (hr : (Instr.sliceAt T vx vl vh none).run P w = .ok v w) : (execOp ρ o).run P w = .ok (.value v) w := by
  subst hx hl hh
  unfold execOp
  simp only [hop, Sem.run_bind, Option.map_none, hr, Result.andThen_ok, Sem.run_pure]
/-- xs[l:h] of a row that is read in the world W. -/
theorem slm (W : World) {A : Option Addr} {c : Nat} (hC : d.C W A xs.length xs) (dst l h : Nat) (hlh : l ≤ h) (hh : h ≤ xs.length) (hc : xs.length ≤ c) {T : TypeId} (hu : P.underlying T = some (.slice e))
    (ht : ∀ A', d.C W A' ((xs.take h).drop l).length ((xs.take h).drop l) → ((xs.take h).drop l).length ≤ c - l → TO dm P N Q all k ((dst, .slice A' ((xs.take h).drop l).length (c - l)) :: fr) w (i + 1)) {x lo hi : Operand} {kl kh : IntKind}
    (ho : all.toList[i]? = some o := by rfl) (hd : o.dst = some dst := by rfl) (hop : o.op = .slice T x (some lo) (some hi) none := by rfl) (hw : ∀ j, Region.wanted o (yl N all j fr) = true := by intro j; rfl)
    (hx : ∀ j, ev j fr x = .slice A xs.length c := by intro j; rfl) (h1 : ∀ j, ev j fr lo = .int kl (l : Int) := by intro j; rfl) (h2 : ∀ j, ev j fr hi = .int kh (h : Int) := by intro j; rfl)
    (hs : (P.info? e).map (·.size) = some d.sz := by kernel_rfl) (hN : Nat.blt dst N = true := by rfl) : TO dm P N Q all k fr w i := by
  obtain ⟨inf, hi0, hsz⟩ := Option.map_eq_some_iff.1 hs
  have hlen : ((xs.take h).drop l).length = h - l := by rw [List.length_drop, List.length_take]; omega
  have hr := cut_mid T e kl kh hu hi0 d.sz hsz A xs.length c (l : Int) (h : Int) (by omega) (by omega) (by omega) hc w
  simp only [Int.toNat_natCast] at hr
  rw [← hlen] at hr
  exact to_op ho hw (fun j => exec_slice hop (hx j) (by simp [h1 j]) (by simp [h2 j]) ((run_sliceAt hu _ _ _ _ w).trans hr)) (by unfold put1; rw [hd]; simp only [hN, cond_true]) (ht _ (Kd.C_mid hC hlh hh hc) (by omega))
/-- xs[:h] -/
theorem slt (W : World) {A : Option Addr} {c : Nat} (hC : d.C W A xs.length xs) (dst h : Nat) (hh : h ≤ xs.length) (hc : xs.length ≤ c) {T : TypeId} (hu : P.underlying T = some (.slice e))
    (ht : d.C W A (xs.take h).length (xs.take h) → (xs.take h).length ≤ c → TO dm P N Q all k ((dst, .slice A (xs.take h).length c) :: fr) w (i + 1)) {x hi : Operand} {kh : IntKind}
    (ho : all.toList[i]? = some o := by rfl) (hd : o.dst = some dst := by rfl) (hop : o.op = .slice T x none (some hi) none := by rfl) (hw : ∀ j, Region.wanted o (yl N all j fr) = true := by intro j; rfl)
    (hx : ∀ j, ev j fr x = .slice A xs.length c := by intro j; rfl) (h2 : ∀ j, ev j fr hi = .int kh (h : Int) := by intro j; rfl)
    (hs : (P.info? e).map (·.size) = some d.sz := by kernel_rfl) (hN : Nat.blt dst N = true := by rfl) : TO dm P N Q all k fr w i := by
  obtain ⟨inf, hi0, hsz⟩ := Option.map_eq_some_iff.1 hs
  have hlen : (xs.take h).length = h := by rw [List.length_take]; omega
  have hr := cut_to T e kh hu hi0 A xs.length c (h : Int) (by omega) (by omega) hc w
  simp only [Int.toNat_natCast] at hr
  have hr : (Instr.slice T (.slice A xs.length c) none (some (.int kh (h : Int))) none).run P w = .ok (.slice A (xs.take h).length c) w := by rw [hlen]; exact hr
  exact to_op ho hw (fun j => exec_slice hop (hx j) rfl (by simp [h2 j]) ((run_sliceAt hu _ _ _ _ w).trans hr)) (by unfold put1; rw [hd]; simp only [hN, cond_true]) (ht (Kd.C_take hC hh) (by omega))
/-- xs[l:] -/
theorem slf (W : World) {A : Option Addr} {c : Nat} (hC : d.C W A xs.length xs) (dst l : Nat) (hl : l ≤ xs.length) (hc : xs.length ≤ c) {T : TypeId} (hu : P.underlying T = some (.slice e))
    (ht : ∀ A', d.C W A' (xs.drop l).length (xs.drop l) → (xs.drop l).length ≤ c - l → TO dm P N Q all k ((dst, .slice A' (xs.drop l).length (c - l)) :: fr) w (i + 1)) {x lo : Operand} {kl : IntKind}
    (ho : all.toList[i]? = some o := by rfl) (hd : o.dst = some dst := by rfl) (hop : o.op = .slice T x (some lo) none none := by rfl) (hw : ∀ j, Region.wanted o (yl N all j fr) = true := by intro j; rfl)
    (hx : ∀ j, ev j fr x = .slice A xs.length c := by intro j; rfl) (h1 : ∀ j, ev j fr lo = .int kl (l : Int) := by intro j; rfl)
    (hs : (P.info? e).map (·.size) = some d.sz := by kernel_rfl) (hN : Nat.blt dst N = true := by rfl) : TO dm P N Q all k fr w i := by
  obtain ⟨inf, hi0, hsz⟩ := Option.map_eq_some_iff.1 hs
  have hlen : (xs.drop l).length = xs.length - l := List.length_drop
  have hr := cut_from T e kl hu hi0 d.sz hsz A xs.length c (l : Int) (by omega) (by omega) w
  simp only [Int.toNat_natCast] at hr
  rw [← hlen] at hr
  exact to_op ho hw (fun j => exec_slice hop (hx j) (by simp [h1 j]) rfl ((run_sliceAt hu _ _ _ _ w).trans hr)) (by unfold put1; rw [hd]; simp only [hN, cond_true]) (ht _ (Kd.C_drop hC hl hc) (by omega))
/-- make: n zeros. -/
theorem mk (M : Mem wr w L) (dst n : Nat) (d : Kd α) (z0 : α) (z : Value) (bytes : Nat) {T : TypeId} (hu : P.underlying T = some (.slice e)) (hn : n * bytes ≤ 1099511627776) (hz0 : ∀ w' ok, d.M w' 0 ok z0 z.cells.toList)
    (ht : ∀ b w', Mem wr w' (row d e (.slice (some ⟨b, 0, none⟩) n n) (List.replicate n z0) :: L) → TO dm P N Q all k ((dst, .slice (some ⟨b, 0, none⟩) n n) :: fr) w' (i + 1)) {x y : Operand} {kl kc : IntKind}
    (ho : all.toList[i]? = some o := by rfl) (hd : o.dst = some dst := by rfl) (hop : o.op = .makeSlice T x y := by rfl) (hw : ∀ j, Region.wanted o (yl N all j fr) = true := by intro j; rfl)
    (hx : ∀ j, ev j fr x = .int kl (n : Int) := by intro j; rfl) (hy : ∀ j, ev j fr y = .int kc (n : Int) := by intro j; rfl) (hi : (P.info? e).map (fun i => (i.zero, i.size, i.bytes)) = some (some z, d.sz, bytes) := by kernel_rfl) (hzs : z.cells.size = d.sz := by rfl) (hs0 : Nat.blt 0 d.sz = true := by rfl)
    (hb0 : Nat.blt 0 bytes = true := by rfl) (hN : Nat.blt dst N = true := by rfl) : TO dm P N Q all k fr w i := by
  obtain ⟨inf, hi0, hzz⟩ := Option.map_eq_some_iff.1 hi
  simp only [Prod.mk.injEq] at hzz
  obtain ⟨hz, hsz, hby⟩ := hzz
  have hb0 := blt_lt hb0
  have hle : n ≤ n * bytes := Nat.le_mul_of_pos_right _ hb0
  have hmul : (inf.bytes : Int) * (n : Int) = ((n * bytes : Nat) : Int) := by rw [hby, Nat.mul_comm]; rfl
  have hr := run_make (P := P) w T e inf z hu hi0 hz kl kc (n : Int) (n : Int) (by omega) (Int.le_refl _) (by rw [hmul]; omega) (by omega)
  simp only [Int.toNat_natCast, hsz] at hr
  have hrep : Reps (fun x c => ∀ w' ok, d.M w' 0 ok x c) d.sz (List.replicate n z0) (madeCells z.cells (n * d.sz)).toList := Kd.reps_made hzs (blt_lt hs0) (fun w' ok => hz0 w' ok) n
  have M' := M.builtF d e (List.replicate n z0) (madeCells z.cells (n * d.sz)) hrep (by rw [List.length_replicate]; omega)
  rw [List.length_replicate] at M'
  refine to_op ho hw (v := .slice (some ⟨w.heap.size, 0, none⟩) n n) (w' := w.alloc (.cells (madeCells z.cells (n * d.sz)) e)) (fun j => ?_) (by unfold put1; rw [hd]; simp only [hN, cond_true]) (ht _ _ M')
  unfold execOp
  simp only [hop, hx j, hy j, Sem.run_bind, hr, Result.andThen_ok, Sem.run_pure]
end
/-! ### bits -/
theorem or_low {a c : Int} (h0 : 0 ≤ a) (h1 : a < 1099511627776) (h2 : 0 ≤ c) (h3 : c < 256) : bits .or .i64 (a * 256) c = a * 256 + c := by
  obtain ⟨n, rfl⟩ := Int.eq_ofNat_of_zero_le h0
  obtain ⟨m, rfl⟩ := Int.eq_ofNat_of_zero_le h2
  have e1 : BitVec.ofInt 64 ((n : Int) * 256) = BitVec.ofNat 64 (n * 256) := by
    rw [show ((n : Int) * 256) = ((n * 256 : Nat) : Int) by omega, BitVec.ofInt_natCast]
  have e2 : BitVec.ofInt 64 (m : Int) = BitVec.ofNat 64 m := BitVec.ofInt_natCast 64 m
  show IntKind.wrap .i64 (((BitVec.ofInt 64 ((n : Int) * 256) ||| BitVec.ofInt 64 (m : Int)).toNat : Nat) : Int) = _
  rw [e1, e2, BitVec.toNat_or, BitVec.toNat_ofNat, BitVec.toNat_ofNat, Nat.mod_eq_of_lt (by omega), Nat.mod_eq_of_lt (by omega)]
  have : n * 256 ||| m = n * 256 + m := by
    have := Nat.shiftLeft_add_eq_or_of_lt (a := n) (b := m) (i := 8) (by omega)
    rw [Nat.shiftLeft_eq] at this
    exact this.symm
  rw [this, wr_i64 (by omega) (by omega)]
  omega
set_option maxRecDepth 100000 in
theorem and128_0 : ∀ r : Fin 256, bits .and .i64 ((r.val : Nat) : Int) 128 = ((r.val : Nat) : Int) / 128 * 128 := by decide
set_option maxRecDepth 100000 in
theorem and7_0 : ∀ r : Fin 256, bits .and .i64 ((r.val : Nat) : Int) 7 = ((r.val : Nat) : Int) % 8 := by decide
set_option maxRecDepth 100000 in
theorem andNot128_0 : ∀ r : Fin 256, bits .andNot .i64 ((r.val : Nat) : Int) 128 = ((r.val : Nat) : Int) % 128 := by decide
theorem and128 {r : Int} (h0 : 0 ≤ r) (h1 : r < 256) : bits .and .i64 r 128 = r / 128 * 128 := by
  have := and128_0 ⟨r.toNat, by omega⟩
  simpa [Int.toNat_of_nonneg h0] using this
theorem and7 {r : Int} (h0 : 0 ≤ r) (h1 : r < 256) : bits .and .i64 r 7 = r % 8 := by
  have := and7_0 ⟨r.toNat, by omega⟩
  simpa [Int.toNat_of_nonneg h0] using this
theorem andNot128 {r : Int} (h0 : 0 ≤ r) (h1 : r < 256) : bits .andNot .i64 r 128 = r % 128 := by
  have := andNot128_0 ⟨r.toNat, by omega⟩
  simpa [Int.toNat_of_nonneg h0] using this
end Cal
/-- A number out of bytes, the highest first. -/
def beN (ys : List Int) : Int := ys.foldl (fun a c => a * 256 + c) 0
def isB (x : Int) : Prop := 0 ≤ x ∧ x < 256
theorem beN_step (ys : List Int) (k : Nat) (hk : k < ys.length) : beN (ys.take (k + 1)) = beN (ys.take k) * 256 + ys.getD k 0 := by
  have h : ys.getD k 0 = ys[k] := by simp [hk]
  rw [h, List.take_succ_eq_append_getElem hk]
  unfold beN
  rw [List.foldl_append]
  rfl
theorem beN_bd : ∀ (ys : List Int), (∀ x ∈ ys, isB x) → 0 ≤ beN ys ∧ beN ys < (256 : Int) ^ ys.length := by
  have key : ∀ (ys : List Int) (a : Int) (n : Nat), (∀ x ∈ ys, isB x) → 0 ≤ a → a < (256 : Int) ^ n → 0 ≤ ys.foldl (fun a c => a * 256 + c) a ∧ ys.foldl (fun a c => a * 256 + c) a < (256 : Int) ^ (n + ys.length) := by
    intro ys
    induction ys with
    | nil => intro a n _ h0 h1; exact ⟨h0, by simpa using h1⟩
    | cons y ys ih =>
      intro a n h h0 h1
      have hy := h y (by simp)
      have hp : (256 : Int) ^ (n + 1) = (256 : Int) ^ n * 256 := Int.pow_succ ..
      have := ih (a * 256 + y) (n + 1) (fun x hx => h x (by simp [hx])) (by have := hy.1; omega) (by rw [hp]; have := hy.2; omega)
      simpa [List.foldl_cons, Nat.add_assoc, Nat.add_comm 1] using this
  intro ys h
  have := key ys 0 0 h (Int.le_refl _) (by simp)
  simpa [beN] using this
theorem isB_at {ys : List Int} (h : ∀ x ∈ ys, isB x) (k : Nat) (hk : k < ys.length) : isB (ys.getD k 0) := h _ (at_mem 0 hk)
theorem beN_take {ys : List Int} (h : ∀ x ∈ ys, isB x) (h4 : ys.length ≤ 4) (k : Nat) : 0 ≤ beN (ys.take k) ∧ beN (ys.take k) < 4294967296 := by
  have h1 := beN_bd (ys.take k) (fun x hx => h x (List.mem_of_mem_take hx))
  have h2 : (ys.take k).length ≤ 4 := by rw [List.length_take]; omega
  have h3 : (ys.take k).length = 0 ∨ (ys.take k).length = 1 ∨ (ys.take k).length = 2 ∨ (ys.take k).length = 3 ∨ (ys.take k).length = 4 := by omega
  refine ⟨h1.1, Int.lt_of_lt_of_le h1.2 ?_⟩
  rcases h3 with h | h | h | h | h <;> rw [h] <;> decide
/-- What a part of bytes tells. -/
def beP (bs : List Int) (l h : Nat) : Int := beN ((bs.take h).drop l)
theorem beP_bd {bs : List Int} (hb : ∀ x ∈ bs, isB x) (l h n : Nat) (hn : h - l ≤ n) (hn4 : n ≤ 4) : 0 ≤ beP bs l h ∧ beP bs l h < (256 : Int) ^ n := by
  have h1 := beN_bd ((bs.take h).drop l) (fun x hx => hb x (List.mem_of_mem_take (List.mem_of_mem_drop hx)))
  have h2 : ((bs.take h).drop l).length ≤ n := by rw [List.length_drop, List.length_take]; omega
  refine ⟨h1.1, Int.lt_of_lt_of_le h1.2 ?_⟩
  have h3 : ∀ a b : Nat, a ≤ b → b ≤ 4 → (256 : Int) ^ a ≤ 256 ^ b := by
    intro a b hab hb4
    have ha : a = 0 ∨ a = 1 ∨ a = 2 ∨ a = 3 ∨ a = 4 := by omega
    have hb : b = 0 ∨ b = 1 ∨ b = 2 ∨ b = 3 ∨ b = 4 := by omega
    rcases ha with rfl | rfl | rfl | rfl | rfl <;> rcases hb with rfl | rfl | rfl | rfl | rfl <;> first | decide | omega
  exact h3 _ _ h2 hn4
def instOf (bs : List Int) : Inst := ⟨beP bs 0 1 / 16, beP bs 0 1 % 16, beP bs 1 2 % 128 / 8, beP bs 1 2 % 8, beP bs 1 2 / 128 * 128 != 0, beP bs 2 4, beP bs 4 8⟩
def instGet (bs : List Int) : Inst × Int := if bs.length = 8 ∧ instMay (instOf bs) = true then (instOf bs, 0) else (Inst.z, 7)
end Go.Proofs.Ytfknhbgghpbkpaa
