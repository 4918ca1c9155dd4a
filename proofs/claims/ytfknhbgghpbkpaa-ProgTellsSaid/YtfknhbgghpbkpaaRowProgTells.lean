/- The law ProgTells of drydocklaw03: whatever program, bytes, index and function it is handed, it gives true, and what it was handed reads as before. No condition. -/
import Derived.Test.YtfknhbgghpbkpaaRows
import Derived.Test.YtfknhbgghpbkpaaTells1
import Derived.Test.YtfknhbgghpbkpaaOpen
import Derived.WalkKit
import Derived.ProofKit
import Derived.OpenShut
import Derived.ShutString
import Derived.ChangeOld
import Derived.Below
import Derived.SizedLaws
import Derived.Carry
namespace Go.Proofs.Ytfknhbgghpbkpaa.ProgTellsRow
open Go.ChangeShapes Go.WideShapes Go.ChangeAt Go.RowKit Cal Go.Proofs.YtfknhbgghpbkpaaW.PrintWords
theorem own : ownKnob Try.prog.godebug = none := by kernel_rfl
theorem laidOut : laidOutB Try.prog = true := by kernel_rfl
set_option maxRecDepth 100000 in
set_option maxHeartbeats 1000000 in
theorem lifted (os : Os) (started : os.Started) (H : Type) (enc : TypeId × Value → H) :
    ReturnsInHanded {} Try.checked os 10 .any (Rows.progTellsSpec.pre6 enc Try.prog Try.f10 Rows.progTellsRow.domain false) (Rows.progTellsSpec.post enc Try.prog Try.f10 false true false false) := by
  refine returnsInHanded_of_change_sized (C := Try.checked) own started (by kernel_rfl) Try.func10
    (ChangeSpec.witness6 (enc := enc) (C := Try.checked) false ⟨#[], #[.agg #[.slice none 0 0], .slice none 0 0, .int .i64 0, .agg #[.int .i64 0, .slice none 0 0]], []⟩ 8 (by kernel_rfl) (by kernel_rfl) (by kernel_rfl) (by kernel_rfl)) ?_
  intro W base args ds gs before hval0 hW hcnd hsz0 _
  have hval : ∀ (j : Nat) t v, Try.f10.params[j]? = some t → args[j]? = some v → Value.okWide Try.prog W .any base t v := hval0
  have hW' := hW
  obtain ⟨p, q, hA0, hV, rfl, hfz, hnd⟩ := hW
  have hA : DataW.TrodAll enc Try.prog W 0 (fun _ => true) true Try.f10.params.toList args.toList ds p := hA0
  rw [Try.params10] at hA hval
  obtain ⟨v0, vs0, d0, ds0, p0, q0, hargs, rfl, rfl, h0, r0⟩ := trodAll_cons hA
  obtain ⟨v1, vs1, d1, ds1, p1, q1, rfl, rfl, rfl, h1, r1⟩ := trodAll_cons r0
  obtain ⟨v2, vs2, d2, ds2, p2, q2, rfl, rfl, rfl, h2, r2⟩ := trodAll_cons r1
  obtain ⟨v3, vs3, d3, ds3, p3, q3, rfl, rfl, rfl, h3, r3⟩ := trodAll_cons r2
  obtain ⟨rfl, rfl, rfl⟩ := trodAll_nil r3
  obtain rfl : args = #[v0, v1, v2, v3] := by cases args; simp_all
  obtain ⟨rfl, rfl⟩ := trodVars_none hV
  have k0 := h0
  have lt0 : ∀ x ∈ p0, x.block < W.heap.size := by obtain ⟨m, hm⟩ := k0; exact DataW.trod_lt m _ _ _ hm
  obtain ⟨fu0, hf0⟩ := h0
  obtain ⟨cs0, rfl, _⟩ := okWide_struct Try.underlying45 (hval 0 45 v0 rfl rfl)
  obtain ⟨A0, c0, x0, e0, l0, C0, ok0⟩ := rd_prog hf0
  obtain rfl : cs0 = #[.slice A0 x0.length c0] := by rw [← Array.toArray_toList (xs := cs0)]; exact congrArg List.toArray e0
  have k1 := h1
  have lt1 : ∀ x ∈ p1, x.block < W.heap.size := by obtain ⟨m, hm⟩ := k1; exact DataW.trod_lt m _ _ _ hm
  obtain ⟨fu1, hf1⟩ := h1
  obtain ⟨x1, y1, z1, rfl⟩ := okWide_slice Try.underlying71 (hval 1 71 v1 rfl rfl)
  obtain ⟨A1, c1, b1, e1, l1, C1, ok1⟩ := rd_bytes hf1
  have e1 : Value.slice x1 y1 z1 = .slice A1 b1.length c1 := List.head_eq_of_cons_eq e1
  obtain ⟨rfl, rfl, rfl⟩ := Value.slice.inj e1
  obtain ⟨a2, rfl, rfl, rfl, w2⟩ := open_int Try.underlying3 (hval 2 3 v2 rfl rfl) h2
  have k3 := h3
  have lt3 : ∀ x ∈ p3, x.block < W.heap.size := by obtain ⟨m, hm⟩ := k3; exact DataW.trod_lt m _ _ _ hm
  obtain ⟨fu3, hf3⟩ := h3
  obtain ⟨cs3, rfl, _⟩ := okWide_struct Try.underlying57 (hval 3 57 v3 rfl rfl)
  obtain ⟨x3, A3, c3, e3, l3, C3, ok3⟩ := rd_fn hf3
  obtain rfl : cs3 = #[.int .i64 x3.args, .slice A3 x3.code.length c3] := by rw [← Array.toArray_toList (xs := cs3)]; exact congrArg List.toArray e3
  refine (tellslaw_any x0 b1 a2 x3 A0 c0 x1 z1 A3 c3 W C0 l0 ok0 C1 l1 ok1 C3 l3).mono fun e W' ⟨he, bel⟩ => ?_
  subst he
  exact ⟨_, rfl, _, _, _, [], _, [], hW', trodAll_mk1 (shut_bool Try.underlying4 _), (trodAll_cons_mk (Below.trod laidOut (by kernel_rfl) (of_decide_eq_true (by kernel_rfl)) k0 bel lt0) (trodAll_cons_mk (Below.trod laidOut (by kernel_rfl) (of_decide_eq_true (by kernel_rfl)) k1 bel lt1) (trodAll_cons_mk (shut_int Try.underlying3 w2) (trodAll_cons_mk (Below.trod laidOut (by kernel_rfl) (of_decide_eq_true (by kernel_rfl)) k3 bel lt3) trodAll_mk0)))), rfl, bel.frame _, fun h => by cases h⟩
theorem over : Rows.progTellsRow.holds Try.pinned (OpenSpec.ofChange Rows.progTellsSpec) :=
  OpenClaim.holds_of_wide 10 Try.f10 rfl rfl rfl rfl rfl rfl rfl ⟨rfl, rfl, rfl, rfl, rfl⟩ rfl rfl rfl rfl rfl (by kernel_rfl) Try.func10 (by kernel_rfl)
    (of_decide_eq_true (by kernel_rfl)) (by unfold Func.isWrapper; first | (rw [if_pos (by decide +kernel)]; kernel_rfl) | (rw [if_neg (by decide +kernel)]; exact ⟨rfl, rfl⟩))
    (fun os started H enc _ => lifted os started H enc)
end Go.Proofs.Ytfknhbgghpbkpaa.ProgTellsRow
namespace Go.Proofs.Ytfknhbgghpbkpaa
/-- The law's row. -/
theorem progTells_holds : Rows.ProgTellsSaid := ProgTellsRow.over
#print axioms progTells_holds
end Go.Proofs.Ytfknhbgghpbkpaa
