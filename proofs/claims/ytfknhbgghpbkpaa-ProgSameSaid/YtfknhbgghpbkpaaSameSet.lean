/- An instruction of one code is stored, in a region that draws. -/
import Derived.Test.YtfknhbgghpbkpaaSameLaw
namespace Go.Proofs.Ytfknhbgghpbkpaa
open Go.RowKit Cal Go.Proofs.YtfknhbgghpbkpaaW.PrintWords
theorem te_cset {P : Program} {N : Nat} {Q : Exit → Act → World → Prop} {fr : Fr} {wr w : World} {L : List Ent} {all : Array Oper} {S : World → Prop} {ds : List Nat} {fuel : Nat} {listed : Array Bool} {i : Nat} {o : Oper} {vs : List Raw} {fs : List Fn} {ad : Addr}
    (M : Mem wr w (star (codes vs fs) :: L)) (x : Inst) (j k : Nat) (hl : vs.length = fs.length) (hj : j < fs.length) (hk : k < (fs.getD j Fn.z).code.length) (ha : (vs.getD j rawZ).2.1 = some ad)
    (hSk : ∀ w', Mem wr w' (star (codes vs (fs.set j ⟨(fs.getD j Fn.z).args, (fs.getD j Fn.z).code.set k x⟩)) :: L) → i ∉ ds → S w → S w')
    (h : ∀ w', Mem wr w' (star (codes vs (fs.set j ⟨(fs.getD j Fn.z).args, (fs.getD j Fn.z).code.set k x⟩)) :: L) → TY P N Q all S ds fuel (listed.setIfInBounds i true) fr w') {ty : TypeId} {a y : Operand}
    (ho : all[i]? = some o := by rfl) (hd : o.dst = none := by rfl) (hop : o.op = .store ty a y := by rfl) (hw : ∀ j, Region.wanted o (yl N all j fr) = true := by intro j; rfl)
    (hx : ∀ j', ev j' fr a = .pointer (some (ad.add (k * 7))) := by intro j; rfl) (hy : ∀ j, ev j fr y = .agg x.cs := by intro j; rfl) (hi : (P.info? ty).map (·.size) = some 7 := by kernel_rfl) : TE P N Q all S ds fuel listed fr w i := by
  obtain ⟨g, cur, rfl, hg, hsz, M'⟩ := code_set x hl hj hk ha M
  have hr := run_storeAt_mid (P := P) w g (k * 7) ty x.cs (there_of hg (by have : kInst.sz = 7 := rfl; rw [this] at hsz; exact hsz)) hi (by kernel_rfl)
  rw [← add0] at hr
  exact te_skip (fun j' => exec_store hop (hx j') (hy j') hr) (hSk _ M') (h _ M') ho hd hw
end Go.Proofs.Ytfknhbgghpbkpaa
