/-
  No cell of these rows narrows 'for every input' (looked for: loops, veiled, ifaces, maps, wideKeys, modest, calm, conditions, laid).
  DERIVED. THE GIVEN ROWS OF THIS SEAT. 12 by the template 'for every input the law returns true; each argument reads behind the call as it read before'; 0 by the template 'total and deterministic' (their statements: YtfknhbgghpbkpaaTotals.lean).
  GIVEN WITH THE SEED: the statements are not yours to turn. If you find one false, say at which input.
  Laid BY PROGRAM, IN A SANDBOX (cutbox-rows.mjs): the forced cells as the released guide's own fill.sh prints them over the translation d15016a6a92b5d58… (all of the seat's roots in one cut). By AI agents, Wed Nov 11 2026. No macro, syntax, notation, axiom, sorry.
-/
import Derived.Test.YtfknhbgghpbkpaaChecked
import GoSem.Claim
import GoSem.ClaimJoined
import GoSem.ClaimMapViews
import Derived.JoinedTies
import Derived.KernelRfl
namespace Go.Proofs.Ytfknhbgghpbkpaa
/- THE CELL 'sum', in the pinned program and in every row, IS THE sha256 OF THE DUMP (.gsa) THAT YtfknhbgghpbkpaaProg.lean LOADS. Nothing in Lean hashes anything: it is a label: what it is worth is what the hold of that sum in a sandbox is worth. -/
noncomputable def Try.pinned : Pinned := { name := "ytfknhbgghpbkpaa", sum := "d15016a6a92b5d58172ce5dd101caf0b3d9f9484403f28c443ff7f209b6f0bf1", checked := Try.checked }
namespace Rows
def none {H : Type} : Left H := { results := [], args := [] }

/-- 'drydocklaw13.ArenaTells': WHATEVER THE INPUT: true; the input reads as it did. -/
def arenaTellsSpec : ChangeSpec := { name := "arenaTells", fn := fun _ => fun
  | [d1, d2, d3, d4, d5] => { results := [.lit (.bool true)], args := [d1, d2, d3, d4, d5] }
  | _ => none }
def arenaTellsRow : OpenClaim := { program := "ytfknhbgghpbkpaa", sum := "d15016a6a92b5d58172ce5dd101caf0b3d9f9484403f28c443ff7f209b6f0bf1", func := "drydock/drydocklaw13.ArenaTells", spec := "arenaTells", unfollowed := true, recurses := true, apart := false }
def ArenaTellsSaid : Prop := arenaTellsRow.holds Try.pinned (OpenSpec.ofChange arenaTellsSpec)

/-- ITS FALSE NEIGHBOUR: 'it returns false'. Refute it at one input. -/
def arenaTellsWrong : ChangeSpec := { name := "arenaTells", fn := fun _ => fun
  | [d1, d2, d3, d4, d5] => { results := [.lit (.bool false)], args := [d1, d2, d3, d4, d5] }
  | _ => none }
def ArenaTellsWrongFalsely : Prop := arenaTellsRow.holds Try.pinned (OpenSpec.ofChange arenaTellsWrong)

/-- 'drydocklaw08.CourseBudget': WHATEVER THE INPUT: true; the input reads as it did. -/
def courseBudgetSpec : ChangeSpec := { name := "courseBudget", fn := fun _ => fun
  | [d1, d2] => { results := [.lit (.bool true)], args := [d1, d2] }
  | _ => none }
def courseBudgetRow : OpenClaim := { program := "ytfknhbgghpbkpaa", sum := "d15016a6a92b5d58172ce5dd101caf0b3d9f9484403f28c443ff7f209b6f0bf1", func := "drydock/drydocklaw08.CourseBudget", spec := "courseBudget", unfollowed := true, recurses := true, apart := false }
def CourseBudgetSaid : Prop := courseBudgetRow.holds Try.pinned (OpenSpec.ofChange courseBudgetSpec)

/-- ITS FALSE NEIGHBOUR: 'it returns false'. Refute it at one input. -/
def courseBudgetWrong : ChangeSpec := { name := "courseBudget", fn := fun _ => fun
  | [d1, d2] => { results := [.lit (.bool false)], args := [d1, d2] }
  | _ => none }
def CourseBudgetWrongFalsely : Prop := courseBudgetRow.holds Try.pinned (OpenSpec.ofChange courseBudgetWrong)

/-- 'drydocklaw14.ImageInside': WHATEVER THE INPUT: true; the input reads as it did. -/
def imageInsideSpec : ChangeSpec := { name := "imageInside", fn := fun _ => fun
  | [d1, d2] => { results := [.lit (.bool true)], args := [d1, d2] }
  | _ => none }
def imageInsideRow : OpenClaim := { program := "ytfknhbgghpbkpaa", sum := "d15016a6a92b5d58172ce5dd101caf0b3d9f9484403f28c443ff7f209b6f0bf1", func := "drydock/drydocklaw14.ImageInside", spec := "imageInside", unfollowed := true, recurses := true, apart := false }
def ImageInsideSaid : Prop := imageInsideRow.holds Try.pinned (OpenSpec.ofChange imageInsideSpec)

/-- ITS FALSE NEIGHBOUR: 'it returns false'. Refute it at one input. -/
def imageInsideWrong : ChangeSpec := { name := "imageInside", fn := fun _ => fun
  | [d1, d2] => { results := [.lit (.bool false)], args := [d1, d2] }
  | _ => none }
def ImageInsideWrongFalsely : Prop := imageInsideRow.holds Try.pinned (OpenSpec.ofChange imageInsideWrong)

/-- 'drydocklaw14.ImageMoves': WHATEVER THE INPUT: true; the input reads as it did. -/
def imageMovesSpec : ChangeSpec := { name := "imageMoves", fn := fun _ => fun
  | [d1, d2, d3] => { results := [.lit (.bool true)], args := [d1, d2, d3] }
  | _ => none }
def imageMovesRow : OpenClaim := { program := "ytfknhbgghpbkpaa", sum := "d15016a6a92b5d58172ce5dd101caf0b3d9f9484403f28c443ff7f209b6f0bf1", func := "drydock/drydocklaw14.ImageMoves", spec := "imageMoves", unfollowed := true, recurses := true, apart := false }
def ImageMovesSaid : Prop := imageMovesRow.holds Try.pinned (OpenSpec.ofChange imageMovesSpec)

/-- ITS FALSE NEIGHBOUR: 'it returns false'. Refute it at one input. -/
def imageMovesWrong : ChangeSpec := { name := "imageMoves", fn := fun _ => fun
  | [d1, d2, d3] => { results := [.lit (.bool false)], args := [d1, d2, d3] }
  | _ => none }
def ImageMovesWrongFalsely : Prop := imageMovesRow.holds Try.pinned (OpenSpec.ofChange imageMovesWrong)

/-- 'drydocklaw03.ProgParts': WHATEVER THE INPUT: true; the input reads as it did. -/
def progPartsSpec : ChangeSpec := { name := "progParts", fn := fun _ => fun
  | [d1, d2] => { results := [.lit (.bool true)], args := [d1, d2] }
  | _ => none }
def progPartsRow : OpenClaim := { program := "ytfknhbgghpbkpaa", sum := "d15016a6a92b5d58172ce5dd101caf0b3d9f9484403f28c443ff7f209b6f0bf1", func := "drydock/drydocklaw03.ProgParts", spec := "progParts", unfollowed := true, recurses := true, apart := false }
def ProgPartsSaid : Prop := progPartsRow.holds Try.pinned (OpenSpec.ofChange progPartsSpec)

/-- ITS FALSE NEIGHBOUR: 'it returns false'. Refute it at one input. -/
def progPartsWrong : ChangeSpec := { name := "progParts", fn := fun _ => fun
  | [d1, d2] => { results := [.lit (.bool false)], args := [d1, d2] }
  | _ => none }
def ProgPartsWrongFalsely : Prop := progPartsRow.holds Try.pinned (OpenSpec.ofChange progPartsWrong)

/-- 'drydocklaw03.ProgSame': WHATEVER THE INPUT: true; the input reads as it did. -/
def progSameSpec : ChangeSpec := { name := "progSame", fn := fun _ => fun
  | [d1, d2, d3, d4] => { results := [.lit (.bool true)], args := [d1, d2, d3, d4] }
  | _ => none }
def progSameRow : OpenClaim := { program := "ytfknhbgghpbkpaa", sum := "d15016a6a92b5d58172ce5dd101caf0b3d9f9484403f28c443ff7f209b6f0bf1", func := "drydock/drydocklaw03.ProgSame", spec := "progSame", unfollowed := true, recurses := true, apart := false }
def ProgSameSaid : Prop := progSameRow.holds Try.pinned (OpenSpec.ofChange progSameSpec)

/-- ITS FALSE NEIGHBOUR: 'it returns false'. Refute it at one input. -/
def progSameWrong : ChangeSpec := { name := "progSame", fn := fun _ => fun
  | [d1, d2, d3, d4] => { results := [.lit (.bool false)], args := [d1, d2, d3, d4] }
  | _ => none }
def ProgSameWrongFalsely : Prop := progSameRow.holds Try.pinned (OpenSpec.ofChange progSameWrong)

/-- 'drydocklaw03.ProgSwap': WHATEVER THE INPUT: true; the input reads as it did. -/
def progSwapSpec : ChangeSpec := { name := "progSwap", fn := fun _ => fun
  | [d1, d2, d3] => { results := [.lit (.bool true)], args := [d1, d2, d3] }
  | _ => none }
def progSwapRow : OpenClaim := { program := "ytfknhbgghpbkpaa", sum := "d15016a6a92b5d58172ce5dd101caf0b3d9f9484403f28c443ff7f209b6f0bf1", func := "drydock/drydocklaw03.ProgSwap", spec := "progSwap", unfollowed := true, recurses := true, apart := false }
def ProgSwapSaid : Prop := progSwapRow.holds Try.pinned (OpenSpec.ofChange progSwapSpec)

/-- ITS FALSE NEIGHBOUR: 'it returns false'. Refute it at one input. -/
def progSwapWrong : ChangeSpec := { name := "progSwap", fn := fun _ => fun
  | [d1, d2, d3] => { results := [.lit (.bool false)], args := [d1, d2, d3] }
  | _ => none }
def ProgSwapWrongFalsely : Prop := progSwapRow.holds Try.pinned (OpenSpec.ofChange progSwapWrong)

/-- 'drydocklaw03.ProgTells': WHATEVER THE INPUT: true; the input reads as it did. -/
def progTellsSpec : ChangeSpec := { name := "progTells", fn := fun _ => fun
  | [d1, d2, d3, d4] => { results := [.lit (.bool true)], args := [d1, d2, d3, d4] }
  | _ => none }
def progTellsRow : OpenClaim := { program := "ytfknhbgghpbkpaa", sum := "d15016a6a92b5d58172ce5dd101caf0b3d9f9484403f28c443ff7f209b6f0bf1", func := "drydock/drydocklaw03.ProgTells", spec := "progTells", unfollowed := true, recurses := true, apart := false }
def ProgTellsSaid : Prop := progTellsRow.holds Try.pinned (OpenSpec.ofChange progTellsSpec)

/-- ITS FALSE NEIGHBOUR: 'it returns false'. Refute it at one input. -/
def progTellsWrong : ChangeSpec := { name := "progTells", fn := fun _ => fun
  | [d1, d2, d3, d4] => { results := [.lit (.bool false)], args := [d1, d2, d3, d4] }
  | _ => none }
def ProgTellsWrongFalsely : Prop := progTellsRow.holds Try.pinned (OpenSpec.ofChange progTellsWrong)

/-- 'drydocklaw14.ImageTurn': WHATEVER THE INPUT: true; the input reads as it did. -/
def imageTurnSpec : ChangeSpec := { name := "imageTurn", fn := fun _ => fun
  | [d1, d2, d3, d4, d5] => { results := [.lit (.bool true)], args := [d1, d2, d3, d4, d5] }
  | _ => none }
def imageTurnRow : OpenClaim := { program := "ytfknhbgghpbkpaa", sum := "d15016a6a92b5d58172ce5dd101caf0b3d9f9484403f28c443ff7f209b6f0bf1", func := "drydock/drydocklaw14.ImageTurn", spec := "imageTurn", unfollowed := true, recurses := true, apart := false }
def ImageTurnSaid : Prop := imageTurnRow.holds Try.pinned (OpenSpec.ofChange imageTurnSpec)

/-- ITS FALSE NEIGHBOUR: 'it returns false'. Refute it at one input. -/
def imageTurnWrong : ChangeSpec := { name := "imageTurn", fn := fun _ => fun
  | [d1, d2, d3, d4, d5] => { results := [.lit (.bool false)], args := [d1, d2, d3, d4, d5] }
  | _ => none }
def ImageTurnWrongFalsely : Prop := imageTurnRow.holds Try.pinned (OpenSpec.ofChange imageTurnWrong)

/-- 'drydocklaw14.ImageTells': WHATEVER THE INPUT: true; the input reads as it did. -/
def imageTellsSpec : ChangeSpec := { name := "imageTells", fn := fun _ => fun
  | [d1, d2, d3, d4, d5, d6] => { results := [.lit (.bool true)], args := [d1, d2, d3, d4, d5, d6] }
  | _ => none }
def imageTellsRow : OpenClaim := { program := "ytfknhbgghpbkpaa", sum := "d15016a6a92b5d58172ce5dd101caf0b3d9f9484403f28c443ff7f209b6f0bf1", func := "drydock/drydocklaw14.ImageTells", spec := "imageTells", unfollowed := true, recurses := true, apart := false }
def ImageTellsSaid : Prop := imageTellsRow.holds Try.pinned (OpenSpec.ofChange imageTellsSpec)

/-- ITS FALSE NEIGHBOUR: 'it returns false'. Refute it at one input. -/
def imageTellsWrong : ChangeSpec := { name := "imageTells", fn := fun _ => fun
  | [d1, d2, d3, d4, d5, d6] => { results := [.lit (.bool false)], args := [d1, d2, d3, d4, d5, d6] }
  | _ => none }
def ImageTellsWrongFalsely : Prop := imageTellsRow.holds Try.pinned (OpenSpec.ofChange imageTellsWrong)

/-- 'drydocklaw11.VerifyRead': WHATEVER THE INPUT: true; the input reads as it did. -/
def verifyReadSpec : ChangeSpec := { name := "verifyRead", fn := fun _ => fun
  | [d1, d2, d3] => { results := [.lit (.bool true)], args := [d1, d2, d3] }
  | _ => none }
def verifyReadRow : OpenClaim := { program := "ytfknhbgghpbkpaa", sum := "d15016a6a92b5d58172ce5dd101caf0b3d9f9484403f28c443ff7f209b6f0bf1", func := "drydock/drydocklaw11.VerifyRead", spec := "verifyRead", unfollowed := true, recurses := true, apart := false }
def VerifyReadSaid : Prop := verifyReadRow.holds Try.pinned (OpenSpec.ofChange verifyReadSpec)

/-- ITS FALSE NEIGHBOUR: 'it returns false'. Refute it at one input. -/
def verifyReadWrong : ChangeSpec := { name := "verifyRead", fn := fun _ => fun
  | [d1, d2, d3] => { results := [.lit (.bool false)], args := [d1, d2, d3] }
  | _ => none }
def VerifyReadWrongFalsely : Prop := verifyReadRow.holds Try.pinned (OpenSpec.ofChange verifyReadWrong)

/-- 'drydocklaw11.VerifyMore': WHATEVER THE INPUT: true; the input reads as it did. -/
def verifyMoreSpec : ChangeSpec := { name := "verifyMore", fn := fun _ => fun
  | [d1, d2, d3] => { results := [.lit (.bool true)], args := [d1, d2, d3] }
  | _ => none }
def verifyMoreRow : OpenClaim := { program := "ytfknhbgghpbkpaa", sum := "d15016a6a92b5d58172ce5dd101caf0b3d9f9484403f28c443ff7f209b6f0bf1", func := "drydock/drydocklaw11.VerifyMore", spec := "verifyMore", unfollowed := true, recurses := true, apart := false }
def VerifyMoreSaid : Prop := verifyMoreRow.holds Try.pinned (OpenSpec.ofChange verifyMoreSpec)

/-- ITS FALSE NEIGHBOUR: 'it returns false'. Refute it at one input. -/
def verifyMoreWrong : ChangeSpec := { name := "verifyMore", fn := fun _ => fun
  | [d1, d2, d3] => { results := [.lit (.bool false)], args := [d1, d2, d3] }
  | _ => none }
def VerifyMoreWrongFalsely : Prop := verifyMoreRow.holds Try.pinned (OpenSpec.ofChange verifyMoreWrong)

/- THE SECOND FORM. 'bulk': how many values and letters a reading holds, each counted each time it is reached (what is shared counts as often as it is met; a slice's spare places count too). A statement '..UptoSaid' is the law's where the arguments, and the package variables that the reading takes, are together of bulk at most 1048576: NARROWER than '..Said'. Prove '..Said' where nothing that the law and all that it calls make is longer than what came in: it says more and counts as full. Else prove '..UptoSaid'. A law counts once. -/
mutual
def uptoBulk {H : Type} : DataW H → Nat
  | .lit (.string bytes) => bytes.length + 1
  | .lit _ => 1
  | .nil => 1
  | .ptr d => uptoBulk d + 1
  | .slice elems spare => uptoBulkAll elems + uptoBulkAll spare + 1
  | .agg parts => uptoBulkAll parts + 1
  | .iface _ d => uptoBulk d + 1
  | .map entries => uptoBulkEntries entries + 1
  | .held _ => 1
def uptoBulkAll {H : Type} : List (DataW H) → Nat
  | [] => 0
  | d :: r => uptoBulk d + uptoBulkAll r
def uptoBulkEntries {H : Type} : List (Lit × DataW H) → Nat
  | [] => 0
  | x :: r => uptoBulkEntry x + uptoBulkEntries r
def uptoBulkEntry {H : Type} : Lit × DataW H → Nat
  | (.string bytes, d) => bytes.length + uptoBulk d + 1
  | (_, d) => uptoBulk d + 1
 end
def uptoSmall : (H : Type) → List (DataW H) → Bool := fun _ ds => decide (uptoBulkAll ds ≤ 1048576)
def OpenSpec.upto (s : _root_.Go.ChangeSpec) : _root_.Go.OpenSpec := { _root_.Go.OpenSpec.ofChange s with cond := some uptoSmall }

/-- 'drydocklaw13.ArenaTells', WHERE WHAT IT READS IS OF BULK AT MOST 1048576: true; the input reads as it did. -/
def arenaTellsUptoRow : OpenClaim := { program := "ytfknhbgghpbkpaa", sum := "d15016a6a92b5d58172ce5dd101caf0b3d9f9484403f28c443ff7f209b6f0bf1", func := "drydock/drydocklaw13.ArenaTells", spec := "arenaTells", unfollowed := true, recurses := true, apart := false, narrowed := true }
def ArenaTellsUptoSaid : Prop := arenaTellsUptoRow.holds Try.pinned (OpenSpec.upto arenaTellsSpec)

/-- 'drydocklaw08.CourseBudget', WHERE WHAT IT READS IS OF BULK AT MOST 1048576: true; the input reads as it did. -/
def courseBudgetUptoRow : OpenClaim := { program := "ytfknhbgghpbkpaa", sum := "d15016a6a92b5d58172ce5dd101caf0b3d9f9484403f28c443ff7f209b6f0bf1", func := "drydock/drydocklaw08.CourseBudget", spec := "courseBudget", unfollowed := true, recurses := true, apart := false, narrowed := true }
def CourseBudgetUptoSaid : Prop := courseBudgetUptoRow.holds Try.pinned (OpenSpec.upto courseBudgetSpec)

/-- 'drydocklaw14.ImageInside', WHERE WHAT IT READS IS OF BULK AT MOST 1048576: true; the input reads as it did. -/
def imageInsideUptoRow : OpenClaim := { program := "ytfknhbgghpbkpaa", sum := "d15016a6a92b5d58172ce5dd101caf0b3d9f9484403f28c443ff7f209b6f0bf1", func := "drydock/drydocklaw14.ImageInside", spec := "imageInside", unfollowed := true, recurses := true, apart := false, narrowed := true }
def ImageInsideUptoSaid : Prop := imageInsideUptoRow.holds Try.pinned (OpenSpec.upto imageInsideSpec)

/-- 'drydocklaw14.ImageMoves', WHERE WHAT IT READS IS OF BULK AT MOST 1048576: true; the input reads as it did. -/
def imageMovesUptoRow : OpenClaim := { program := "ytfknhbgghpbkpaa", sum := "d15016a6a92b5d58172ce5dd101caf0b3d9f9484403f28c443ff7f209b6f0bf1", func := "drydock/drydocklaw14.ImageMoves", spec := "imageMoves", unfollowed := true, recurses := true, apart := false, narrowed := true }
def ImageMovesUptoSaid : Prop := imageMovesUptoRow.holds Try.pinned (OpenSpec.upto imageMovesSpec)

/-- 'drydocklaw03.ProgParts', WHERE WHAT IT READS IS OF BULK AT MOST 1048576: true; the input reads as it did. -/
def progPartsUptoRow : OpenClaim := { program := "ytfknhbgghpbkpaa", sum := "d15016a6a92b5d58172ce5dd101caf0b3d9f9484403f28c443ff7f209b6f0bf1", func := "drydock/drydocklaw03.ProgParts", spec := "progParts", unfollowed := true, recurses := true, apart := false, narrowed := true }
def ProgPartsUptoSaid : Prop := progPartsUptoRow.holds Try.pinned (OpenSpec.upto progPartsSpec)

/-- 'drydocklaw03.ProgSame', WHERE WHAT IT READS IS OF BULK AT MOST 1048576: true; the input reads as it did. -/
def progSameUptoRow : OpenClaim := { program := "ytfknhbgghpbkpaa", sum := "d15016a6a92b5d58172ce5dd101caf0b3d9f9484403f28c443ff7f209b6f0bf1", func := "drydock/drydocklaw03.ProgSame", spec := "progSame", unfollowed := true, recurses := true, apart := false, narrowed := true }
def ProgSameUptoSaid : Prop := progSameUptoRow.holds Try.pinned (OpenSpec.upto progSameSpec)

/-- 'drydocklaw03.ProgSwap', WHERE WHAT IT READS IS OF BULK AT MOST 1048576: true; the input reads as it did. -/
def progSwapUptoRow : OpenClaim := { program := "ytfknhbgghpbkpaa", sum := "d15016a6a92b5d58172ce5dd101caf0b3d9f9484403f28c443ff7f209b6f0bf1", func := "drydock/drydocklaw03.ProgSwap", spec := "progSwap", unfollowed := true, recurses := true, apart := false, narrowed := true }
def ProgSwapUptoSaid : Prop := progSwapUptoRow.holds Try.pinned (OpenSpec.upto progSwapSpec)

/-- 'drydocklaw03.ProgTells', WHERE WHAT IT READS IS OF BULK AT MOST 1048576: true; the input reads as it did. -/
def progTellsUptoRow : OpenClaim := { program := "ytfknhbgghpbkpaa", sum := "d15016a6a92b5d58172ce5dd101caf0b3d9f9484403f28c443ff7f209b6f0bf1", func := "drydock/drydocklaw03.ProgTells", spec := "progTells", unfollowed := true, recurses := true, apart := false, narrowed := true }
def ProgTellsUptoSaid : Prop := progTellsUptoRow.holds Try.pinned (OpenSpec.upto progTellsSpec)

/-- 'drydocklaw14.ImageTurn', WHERE WHAT IT READS IS OF BULK AT MOST 1048576: true; the input reads as it did. -/
def imageTurnUptoRow : OpenClaim := { program := "ytfknhbgghpbkpaa", sum := "d15016a6a92b5d58172ce5dd101caf0b3d9f9484403f28c443ff7f209b6f0bf1", func := "drydock/drydocklaw14.ImageTurn", spec := "imageTurn", unfollowed := true, recurses := true, apart := false, narrowed := true }
def ImageTurnUptoSaid : Prop := imageTurnUptoRow.holds Try.pinned (OpenSpec.upto imageTurnSpec)

/-- 'drydocklaw14.ImageTells', WHERE WHAT IT READS IS OF BULK AT MOST 1048576: true; the input reads as it did. -/
def imageTellsUptoRow : OpenClaim := { program := "ytfknhbgghpbkpaa", sum := "d15016a6a92b5d58172ce5dd101caf0b3d9f9484403f28c443ff7f209b6f0bf1", func := "drydock/drydocklaw14.ImageTells", spec := "imageTells", unfollowed := true, recurses := true, apart := false, narrowed := true }
def ImageTellsUptoSaid : Prop := imageTellsUptoRow.holds Try.pinned (OpenSpec.upto imageTellsSpec)

/-- 'drydocklaw11.VerifyRead', WHERE WHAT IT READS IS OF BULK AT MOST 1048576: true; the input reads as it did. -/
def verifyReadUptoRow : OpenClaim := { program := "ytfknhbgghpbkpaa", sum := "d15016a6a92b5d58172ce5dd101caf0b3d9f9484403f28c443ff7f209b6f0bf1", func := "drydock/drydocklaw11.VerifyRead", spec := "verifyRead", unfollowed := true, recurses := true, apart := false, narrowed := true }
def VerifyReadUptoSaid : Prop := verifyReadUptoRow.holds Try.pinned (OpenSpec.upto verifyReadSpec)

/-- 'drydocklaw11.VerifyMore', WHERE WHAT IT READS IS OF BULK AT MOST 1048576: true; the input reads as it did. -/
def verifyMoreUptoRow : OpenClaim := { program := "ytfknhbgghpbkpaa", sum := "d15016a6a92b5d58172ce5dd101caf0b3d9f9484403f28c443ff7f209b6f0bf1", func := "drydock/drydocklaw11.VerifyMore", spec := "verifyMore", unfollowed := true, recurses := true, apart := false, narrowed := true }
def VerifyMoreUptoSaid : Prop := verifyMoreUptoRow.holds Try.pinned (OpenSpec.upto verifyMoreSpec)

end Rows
end Go.Proofs.Ytfknhbgghpbkpaa
