/-
  No cell of these rows narrows 'for every input' (looked for: loops, veiled, ifaces, maps, wideKeys, modest, calm, conditions, laid).
  DERIVED. THE GIVEN ROWS OF THIS SEAT. 12 by the template 'for every input the law returns true; each argument reads behind the call as it read before'; 0 by the template 'total and deterministic' (their statements: YtikgflhepclfgabTotals.lean).
  GIVEN WITH THE SEED: the statements are not yours to turn. If you find one false, say at which input.
  Laid BY PROGRAM, IN A SANDBOX (cutbox-rows.mjs): the forced cells as the released guide's own fill.sh prints them over the translation 7475fdec73c29694… (all of the seat's roots in one cut). By AI agents, Wed Nov 11 2026. No macro, syntax, notation, axiom, sorry.
-/
import Derived.Test.YtikgflhepclfgabChecked
import GoSem.Claim
import GoSem.ClaimJoined
import GoSem.ClaimMapViews
import Derived.JoinedTies
import Derived.KernelRfl
namespace Go.Proofs.Ytikgflhepclfgab
/- THE CELL 'sum', in the pinned program and in every row, IS THE sha256 OF THE DUMP (.gsa) THAT YtikgflhepclfgabProg.lean LOADS. Nothing in Lean hashes anything: it is a label: what it is worth is what the hold of that sum in a sandbox is worth. -/
noncomputable def Try.pinned : Pinned := { name := "ytikgflhepclfgab", sum := "7475fdec73c29694ee629ab629411989224f049385c5ed2cc9aa7815886764e3", checked := Try.checked }
namespace Rows
def none {H : Type} : Left H := { results := [], args := [] }

/-- 'laws.FnSlideForward': WHATEVER THE INPUT: true; the input reads as it did. -/
def fnSlideForwardSpec : ChangeSpec := { name := "fnSlideForward", fn := fun _ => fun
  | [d] => { results := [.lit (.bool true)], args := [d] }
  | _ => none }
def fnSlideForwardRow : OpenClaim := { program := "ytikgflhepclfgab", sum := "7475fdec73c29694ee629ab629411989224f049385c5ed2cc9aa7815886764e3", func := "loop.example/memorymanagers/laws.FnSlideForward", spec := "fnSlideForward", unfollowed := true, recurses := true, apart := false }
def FnSlideForwardSaid : Prop := fnSlideForwardRow.holds Try.pinned (OpenSpec.ofChange fnSlideForwardSpec)

/-- ITS FALSE NEIGHBOUR: 'it returns false'. Refute it at one input. -/
def fnSlideForwardWrong : ChangeSpec := { name := "fnSlideForward", fn := fun _ => fun
  | [d] => { results := [.lit (.bool false)], args := [d] }
  | _ => none }
def FnSlideForwardWrongFalsely : Prop := fnSlideForwardRow.holds Try.pinned (OpenSpec.ofChange fnSlideForwardWrong)

/-- 'laws.FnCopyForward': WHATEVER THE INPUT: true; the input reads as it did. -/
def fnCopyForwardSpec : ChangeSpec := { name := "fnCopyForward", fn := fun _ => fun
  | [d] => { results := [.lit (.bool true)], args := [d] }
  | _ => none }
def fnCopyForwardRow : OpenClaim := { program := "ytikgflhepclfgab", sum := "7475fdec73c29694ee629ab629411989224f049385c5ed2cc9aa7815886764e3", func := "loop.example/memorymanagers/laws.FnCopyForward", spec := "fnCopyForward", unfollowed := true, recurses := true, apart := false }
def FnCopyForwardSaid : Prop := fnCopyForwardRow.holds Try.pinned (OpenSpec.ofChange fnCopyForwardSpec)

/-- ITS FALSE NEIGHBOUR: 'it returns false'. Refute it at one input. -/
def fnCopyForwardWrong : ChangeSpec := { name := "fnCopyForward", fn := fun _ => fun
  | [d] => { results := [.lit (.bool false)], args := [d] }
  | _ => none }
def FnCopyForwardWrongFalsely : Prop := fnCopyForwardRow.holds Try.pinned (OpenSpec.ofChange fnCopyForwardWrong)

/-- 'laws.FnLazyStart': WHATEVER THE INPUT: true; the input reads as it did. -/
def fnLazyStartSpec : ChangeSpec := { name := "fnLazyStart", fn := fun _ => fun
  | [d] => { results := [.lit (.bool true)], args := [d] }
  | _ => none }
def fnLazyStartRow : OpenClaim := { program := "ytikgflhepclfgab", sum := "7475fdec73c29694ee629ab629411989224f049385c5ed2cc9aa7815886764e3", func := "loop.example/memorymanagers/laws.FnLazyStart", spec := "fnLazyStart", unfollowed := true, recurses := true, apart := false }
def FnLazyStartSaid : Prop := fnLazyStartRow.holds Try.pinned (OpenSpec.ofChange fnLazyStartSpec)

/-- ITS FALSE NEIGHBOUR: 'it returns false'. Refute it at one input. -/
def fnLazyStartWrong : ChangeSpec := { name := "fnLazyStart", fn := fun _ => fun
  | [d] => { results := [.lit (.bool false)], args := [d] }
  | _ => none }
def FnLazyStartWrongFalsely : Prop := fnLazyStartRow.holds Try.pinned (OpenSpec.ofChange fnLazyStartWrong)

/-- 'laws.FnCountedValid': WHATEVER THE INPUT: true; the input reads as it did. -/
def fnCountedValidSpec : ChangeSpec := { name := "fnCountedValid", fn := fun _ => fun
  | [d] => { results := [.lit (.bool true)], args := [d] }
  | _ => none }
def fnCountedValidRow : OpenClaim := { program := "ytikgflhepclfgab", sum := "7475fdec73c29694ee629ab629411989224f049385c5ed2cc9aa7815886764e3", func := "loop.example/memorymanagers/laws.FnCountedValid", spec := "fnCountedValid", unfollowed := true, recurses := true, apart := false }
def FnCountedValidSaid : Prop := fnCountedValidRow.holds Try.pinned (OpenSpec.ofChange fnCountedValidSpec)

/-- ITS FALSE NEIGHBOUR: 'it returns false'. Refute it at one input. -/
def fnCountedValidWrong : ChangeSpec := { name := "fnCountedValid", fn := fun _ => fun
  | [d] => { results := [.lit (.bool false)], args := [d] }
  | _ => none }
def FnCountedValidWrongFalsely : Prop := fnCountedValidRow.holds Try.pinned (OpenSpec.ofChange fnCountedValidWrong)

/-- 'laws.FnMarkDepth': WHATEVER THE INPUT: true; the input reads as it did. -/
def fnMarkDepthSpec : ChangeSpec := { name := "fnMarkDepth", fn := fun _ => fun
  | [d] => { results := [.lit (.bool true)], args := [d] }
  | _ => none }
def fnMarkDepthRow : OpenClaim := { program := "ytikgflhepclfgab", sum := "7475fdec73c29694ee629ab629411989224f049385c5ed2cc9aa7815886764e3", func := "loop.example/memorymanagers/laws.FnMarkDepth", spec := "fnMarkDepth", unfollowed := true, recurses := true, apart := false }
def FnMarkDepthSaid : Prop := fnMarkDepthRow.holds Try.pinned (OpenSpec.ofChange fnMarkDepthSpec)

/-- ITS FALSE NEIGHBOUR: 'it returns false'. Refute it at one input. -/
def fnMarkDepthWrong : ChangeSpec := { name := "fnMarkDepth", fn := fun _ => fun
  | [d] => { results := [.lit (.bool false)], args := [d] }
  | _ => none }
def FnMarkDepthWrongFalsely : Prop := fnMarkDepthRow.holds Try.pinned (OpenSpec.ofChange fnMarkDepthWrong)

/-- 'laws.FnLeakedCells': WHATEVER THE INPUT: true; the input reads as it did. -/
def fnLeakedCellsSpec : ChangeSpec := { name := "fnLeakedCells", fn := fun _ => fun
  | [d] => { results := [.lit (.bool true)], args := [d] }
  | _ => none }
def fnLeakedCellsRow : OpenClaim := { program := "ytikgflhepclfgab", sum := "7475fdec73c29694ee629ab629411989224f049385c5ed2cc9aa7815886764e3", func := "loop.example/memorymanagers/laws.FnLeakedCells", spec := "fnLeakedCells", unfollowed := true, recurses := true, apart := false }
def FnLeakedCellsSaid : Prop := fnLeakedCellsRow.holds Try.pinned (OpenSpec.ofChange fnLeakedCellsSpec)

/-- ITS FALSE NEIGHBOUR: 'it returns false'. Refute it at one input. -/
def fnLeakedCellsWrong : ChangeSpec := { name := "fnLeakedCells", fn := fun _ => fun
  | [d] => { results := [.lit (.bool false)], args := [d] }
  | _ => none }
def FnLeakedCellsWrongFalsely : Prop := fnLeakedCellsRow.holds Try.pinned (OpenSpec.ofChange fnLeakedCellsWrong)

/-- 'laws.FnLazyValid': WHATEVER THE INPUT: true; the input reads as it did. -/
def fnLazyValidSpec : ChangeSpec := { name := "fnLazyValid", fn := fun _ => fun
  | [d] => { results := [.lit (.bool true)], args := [d] }
  | _ => none }
def fnLazyValidRow : OpenClaim := { program := "ytikgflhepclfgab", sum := "7475fdec73c29694ee629ab629411989224f049385c5ed2cc9aa7815886764e3", func := "loop.example/memorymanagers/laws.FnLazyValid", spec := "fnLazyValid", unfollowed := true, recurses := true, apart := false }
def FnLazyValidSaid : Prop := fnLazyValidRow.holds Try.pinned (OpenSpec.ofChange fnLazyValidSpec)

/-- ITS FALSE NEIGHBOUR: 'it returns false'. Refute it at one input. -/
def fnLazyValidWrong : ChangeSpec := { name := "fnLazyValid", fn := fun _ => fun
  | [d] => { results := [.lit (.bool false)], args := [d] }
  | _ => none }
def FnLazyValidWrongFalsely : Prop := fnLazyValidRow.holds Try.pinned (OpenSpec.ofChange fnLazyValidWrong)

/-- 'laws.FnSlideMoved': WHATEVER THE INPUT: true; the input reads as it did. -/
def fnSlideMovedSpec : ChangeSpec := { name := "fnSlideMoved", fn := fun _ => fun
  | [d] => { results := [.lit (.bool true)], args := [d] }
  | _ => none }
def fnSlideMovedRow : OpenClaim := { program := "ytikgflhepclfgab", sum := "7475fdec73c29694ee629ab629411989224f049385c5ed2cc9aa7815886764e3", func := "loop.example/memorymanagers/laws.FnSlideMoved", spec := "fnSlideMoved", unfollowed := true, recurses := true, apart := false }
def FnSlideMovedSaid : Prop := fnSlideMovedRow.holds Try.pinned (OpenSpec.ofChange fnSlideMovedSpec)

/-- ITS FALSE NEIGHBOUR: 'it returns false'. Refute it at one input. -/
def fnSlideMovedWrong : ChangeSpec := { name := "fnSlideMoved", fn := fun _ => fun
  | [d] => { results := [.lit (.bool false)], args := [d] }
  | _ => none }
def FnSlideMovedWrongFalsely : Prop := fnSlideMovedRow.holds Try.pinned (OpenSpec.ofChange fnSlideMovedWrong)

/-- 'laws.FnDeadCycle': WHATEVER THE INPUT: true; the input reads as it did. -/
def fnDeadCycleSpec : ChangeSpec := { name := "fnDeadCycle", fn := fun _ => fun
  | [d] => { results := [.lit (.bool true)], args := [d] }
  | _ => none }
def fnDeadCycleRow : OpenClaim := { program := "ytikgflhepclfgab", sum := "7475fdec73c29694ee629ab629411989224f049385c5ed2cc9aa7815886764e3", func := "loop.example/memorymanagers/laws.FnDeadCycle", spec := "fnDeadCycle", unfollowed := true, recurses := true, apart := false }
def FnDeadCycleSaid : Prop := fnDeadCycleRow.holds Try.pinned (OpenSpec.ofChange fnDeadCycleSpec)

/-- ITS FALSE NEIGHBOUR: 'it returns false'. Refute it at one input. -/
def fnDeadCycleWrong : ChangeSpec := { name := "fnDeadCycle", fn := fun _ => fun
  | [d] => { results := [.lit (.bool false)], args := [d] }
  | _ => none }
def FnDeadCycleWrongFalsely : Prop := fnDeadCycleRow.holds Try.pinned (OpenSpec.ofChange fnDeadCycleWrong)

/-- 'laws.FnDeadLeaked': WHATEVER THE INPUT: true; the input reads as it did. -/
def fnDeadLeakedSpec : ChangeSpec := { name := "fnDeadLeaked", fn := fun _ => fun
  | [d] => { results := [.lit (.bool true)], args := [d] }
  | _ => none }
def fnDeadLeakedRow : OpenClaim := { program := "ytikgflhepclfgab", sum := "7475fdec73c29694ee629ab629411989224f049385c5ed2cc9aa7815886764e3", func := "loop.example/memorymanagers/laws.FnDeadLeaked", spec := "fnDeadLeaked", unfollowed := true, recurses := true, apart := false }
def FnDeadLeakedSaid : Prop := fnDeadLeakedRow.holds Try.pinned (OpenSpec.ofChange fnDeadLeakedSpec)

/-- ITS FALSE NEIGHBOUR: 'it returns false'. Refute it at one input. -/
def fnDeadLeakedWrong : ChangeSpec := { name := "fnDeadLeaked", fn := fun _ => fun
  | [d] => { results := [.lit (.bool false)], args := [d] }
  | _ => none }
def FnDeadLeakedWrongFalsely : Prop := fnDeadLeakedRow.holds Try.pinned (OpenSpec.ofChange fnDeadLeakedWrong)

/-- 'laws.FnCopySteps': WHATEVER THE INPUT: true; the input reads as it did. -/
def fnCopyStepsSpec : ChangeSpec := { name := "fnCopySteps", fn := fun _ => fun
  | [d] => { results := [.lit (.bool true)], args := [d] }
  | _ => none }
def fnCopyStepsRow : OpenClaim := { program := "ytikgflhepclfgab", sum := "7475fdec73c29694ee629ab629411989224f049385c5ed2cc9aa7815886764e3", func := "loop.example/memorymanagers/laws.FnCopySteps", spec := "fnCopySteps", unfollowed := true, recurses := true, apart := false }
def FnCopyStepsSaid : Prop := fnCopyStepsRow.holds Try.pinned (OpenSpec.ofChange fnCopyStepsSpec)

/-- ITS FALSE NEIGHBOUR: 'it returns false'. Refute it at one input. -/
def fnCopyStepsWrong : ChangeSpec := { name := "fnCopySteps", fn := fun _ => fun
  | [d] => { results := [.lit (.bool false)], args := [d] }
  | _ => none }
def FnCopyStepsWrongFalsely : Prop := fnCopyStepsRow.holds Try.pinned (OpenSpec.ofChange fnCopyStepsWrong)

/-- 'laws.FnViewCopy': WHATEVER THE INPUT: true; the input reads as it did. -/
def fnViewCopySpec : ChangeSpec := { name := "fnViewCopy", fn := fun _ => fun
  | [d] => { results := [.lit (.bool true)], args := [d] }
  | _ => none }
def fnViewCopyRow : OpenClaim := { program := "ytikgflhepclfgab", sum := "7475fdec73c29694ee629ab629411989224f049385c5ed2cc9aa7815886764e3", func := "loop.example/memorymanagers/laws.FnViewCopy", spec := "fnViewCopy", unfollowed := true, recurses := true, apart := false }
def FnViewCopySaid : Prop := fnViewCopyRow.holds Try.pinned (OpenSpec.ofChange fnViewCopySpec)

/-- ITS FALSE NEIGHBOUR: 'it returns false'. Refute it at one input. -/
def fnViewCopyWrong : ChangeSpec := { name := "fnViewCopy", fn := fun _ => fun
  | [d] => { results := [.lit (.bool false)], args := [d] }
  | _ => none }
def FnViewCopyWrongFalsely : Prop := fnViewCopyRow.holds Try.pinned (OpenSpec.ofChange fnViewCopyWrong)

/- THE SECOND FORM. 'bulk': how many values and letters a reading holds, each counted each time it is reached (what is shared counts as often as it is met; a slice's spare places count too). A statement '..UptoSaid' is the law's where the arguments, and the package variables that the reading takes, are together of bulk at most 1048576: NARROWER than '..Said'. Prove '..Said' where nothing that the law and all that it calls make is longer than what came in: it says more and counts as full. Else prove '..UptoSaid'. A law counts once. -/
mutual
def uptoBulk {H : Type} : DataW H → Nat
  | .lit (.string bytes) => bytes.length + 1
  | .lit _ => 1
  | .nil => 1
  | .ptr d => uptoBulk d + 1
  | .slice elems spare => uptoBulkAll elems + uptoBulkAll spare + 1
  | .agg parts => uptoBulkAll parts + 1
  | .iface _ d => uptoBulk d + 1
  | .map entries => uptoBulkEntries entries + 1
  | .held _ => 1
def uptoBulkAll {H : Type} : List (DataW H) → Nat
  | [] => 0
  | d :: r => uptoBulk d + uptoBulkAll r
def uptoBulkEntries {H : Type} : List (Lit × DataW H) → Nat
  | [] => 0
  | x :: r => uptoBulkEntry x + uptoBulkEntries r
def uptoBulkEntry {H : Type} : Lit × DataW H → Nat
  | (.string bytes, d) => bytes.length + uptoBulk d + 1
  | (_, d) => uptoBulk d + 1
 end
def uptoSmall : (H : Type) → List (DataW H) → Bool := fun _ ds => decide (uptoBulkAll ds ≤ 1048576)
def OpenSpec.upto (s : _root_.Go.ChangeSpec) : _root_.Go.OpenSpec := { _root_.Go.OpenSpec.ofChange s with cond := some uptoSmall }

/-- 'laws.FnSlideForward', WHERE WHAT IT READS IS OF BULK AT MOST 1048576: true; the input reads as it did. -/
def fnSlideForwardUptoRow : OpenClaim := { program := "ytikgflhepclfgab", sum := "7475fdec73c29694ee629ab629411989224f049385c5ed2cc9aa7815886764e3", func := "loop.example/memorymanagers/laws.FnSlideForward", spec := "fnSlideForward", unfollowed := true, recurses := true, apart := false, narrowed := true }
def FnSlideForwardUptoSaid : Prop := fnSlideForwardUptoRow.holds Try.pinned (OpenSpec.upto fnSlideForwardSpec)

/-- 'laws.FnCopyForward', WHERE WHAT IT READS IS OF BULK AT MOST 1048576: true; the input reads as it did. -/
def fnCopyForwardUptoRow : OpenClaim := { program := "ytikgflhepclfgab", sum := "7475fdec73c29694ee629ab629411989224f049385c5ed2cc9aa7815886764e3", func := "loop.example/memorymanagers/laws.FnCopyForward", spec := "fnCopyForward", unfollowed := true, recurses := true, apart := false, narrowed := true }
def FnCopyForwardUptoSaid : Prop := fnCopyForwardUptoRow.holds Try.pinned (OpenSpec.upto fnCopyForwardSpec)

/-- 'laws.FnLazyStart', WHERE WHAT IT READS IS OF BULK AT MOST 1048576: true; the input reads as it did. -/
def fnLazyStartUptoRow : OpenClaim := { program := "ytikgflhepclfgab", sum := "7475fdec73c29694ee629ab629411989224f049385c5ed2cc9aa7815886764e3", func := "loop.example/memorymanagers/laws.FnLazyStart", spec := "fnLazyStart", unfollowed := true, recurses := true, apart := false, narrowed := true }
def FnLazyStartUptoSaid : Prop := fnLazyStartUptoRow.holds Try.pinned (OpenSpec.upto fnLazyStartSpec)

/-- 'laws.FnCountedValid', WHERE WHAT IT READS IS OF BULK AT MOST 1048576: true; the input reads as it did. -/
def fnCountedValidUptoRow : OpenClaim := { program := "ytikgflhepclfgab", sum := "7475fdec73c29694ee629ab629411989224f049385c5ed2cc9aa7815886764e3", func := "loop.example/memorymanagers/laws.FnCountedValid", spec := "fnCountedValid", unfollowed := true, recurses := true, apart := false, narrowed := true }
def FnCountedValidUptoSaid : Prop := fnCountedValidUptoRow.holds Try.pinned (OpenSpec.upto fnCountedValidSpec)

/-- 'laws.FnMarkDepth', WHERE WHAT IT READS IS OF BULK AT MOST 1048576: true; the input reads as it did. -/
def fnMarkDepthUptoRow : OpenClaim := { program := "ytikgflhepclfgab", sum := "7475fdec73c29694ee629ab629411989224f049385c5ed2cc9aa7815886764e3", func := "loop.example/memorymanagers/laws.FnMarkDepth", spec := "fnMarkDepth", unfollowed := true, recurses := true, apart := false, narrowed := true }
def FnMarkDepthUptoSaid : Prop := fnMarkDepthUptoRow.holds Try.pinned (OpenSpec.upto fnMarkDepthSpec)

/-- 'laws.FnLeakedCells', WHERE WHAT IT READS IS OF BULK AT MOST 1048576: true; the input reads as it did. -/
def fnLeakedCellsUptoRow : OpenClaim := { program := "ytikgflhepclfgab", sum := "7475fdec73c29694ee629ab629411989224f049385c5ed2cc9aa7815886764e3", func := "loop.example/memorymanagers/laws.FnLeakedCells", spec := "fnLeakedCells", unfollowed := true, recurses := true, apart := false, narrowed := true }
def FnLeakedCellsUptoSaid : Prop := fnLeakedCellsUptoRow.holds Try.pinned (OpenSpec.upto fnLeakedCellsSpec)

/-- 'laws.FnLazyValid', WHERE WHAT IT READS IS OF BULK AT MOST 1048576: true; the input reads as it did. -/
def fnLazyValidUptoRow : OpenClaim := { program := "ytikgflhepclfgab", sum := "7475fdec73c29694ee629ab629411989224f049385c5ed2cc9aa7815886764e3", func := "loop.example/memorymanagers/laws.FnLazyValid", spec := "fnLazyValid", unfollowed := true, recurses := true, apart := false, narrowed := true }
def FnLazyValidUptoSaid : Prop := fnLazyValidUptoRow.holds Try.pinned (OpenSpec.upto fnLazyValidSpec)

/-- 'laws.FnSlideMoved', WHERE WHAT IT READS IS OF BULK AT MOST 1048576: true; the input reads as it did. -/
def fnSlideMovedUptoRow : OpenClaim := { program := "ytikgflhepclfgab", sum := "7475fdec73c29694ee629ab629411989224f049385c5ed2cc9aa7815886764e3", func := "loop.example/memorymanagers/laws.FnSlideMoved", spec := "fnSlideMoved", unfollowed := true, recurses := true, apart := false, narrowed := true }
def FnSlideMovedUptoSaid : Prop := fnSlideMovedUptoRow.holds Try.pinned (OpenSpec.upto fnSlideMovedSpec)

/-- 'laws.FnDeadCycle', WHERE WHAT IT READS IS OF BULK AT MOST 1048576: true; the input reads as it did. -/
def fnDeadCycleUptoRow : OpenClaim := { program := "ytikgflhepclfgab", sum := "7475fdec73c29694ee629ab629411989224f049385c5ed2cc9aa7815886764e3", func := "loop.example/memorymanagers/laws.FnDeadCycle", spec := "fnDeadCycle", unfollowed := true, recurses := true, apart := false, narrowed := true }
def FnDeadCycleUptoSaid : Prop := fnDeadCycleUptoRow.holds Try.pinned (OpenSpec.upto fnDeadCycleSpec)

/-- 'laws.FnDeadLeaked', WHERE WHAT IT READS IS OF BULK AT MOST 1048576: true; the input reads as it did. -/
def fnDeadLeakedUptoRow : OpenClaim := { program := "ytikgflhepclfgab", sum := "7475fdec73c29694ee629ab629411989224f049385c5ed2cc9aa7815886764e3", func := "loop.example/memorymanagers/laws.FnDeadLeaked", spec := "fnDeadLeaked", unfollowed := true, recurses := true, apart := false, narrowed := true }
def FnDeadLeakedUptoSaid : Prop := fnDeadLeakedUptoRow.holds Try.pinned (OpenSpec.upto fnDeadLeakedSpec)

/-- 'laws.FnCopySteps', WHERE WHAT IT READS IS OF BULK AT MOST 1048576: true; the input reads as it did. -/
def fnCopyStepsUptoRow : OpenClaim := { program := "ytikgflhepclfgab", sum := "7475fdec73c29694ee629ab629411989224f049385c5ed2cc9aa7815886764e3", func := "loop.example/memorymanagers/laws.FnCopySteps", spec := "fnCopySteps", unfollowed := true, recurses := true, apart := false, narrowed := true }
def FnCopyStepsUptoSaid : Prop := fnCopyStepsUptoRow.holds Try.pinned (OpenSpec.upto fnCopyStepsSpec)

/-- 'laws.FnViewCopy', WHERE WHAT IT READS IS OF BULK AT MOST 1048576: true; the input reads as it did. -/
def fnViewCopyUptoRow : OpenClaim := { program := "ytikgflhepclfgab", sum := "7475fdec73c29694ee629ab629411989224f049385c5ed2cc9aa7815886764e3", func := "loop.example/memorymanagers/laws.FnViewCopy", spec := "fnViewCopy", unfollowed := true, recurses := true, apart := false, narrowed := true }
def FnViewCopyUptoSaid : Prop := fnViewCopyUptoRow.holds Try.pinned (OpenSpec.upto fnViewCopySpec)

end Rows
end Go.Proofs.Ytikgflhepclfgab
