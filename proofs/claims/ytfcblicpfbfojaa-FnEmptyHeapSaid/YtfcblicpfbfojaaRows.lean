/-
  No cell of these rows narrows 'for every input' (looked for: loops, veiled, ifaces, maps, wideKeys, modest, calm, conditions, laid).
  DERIVED. THE GIVEN ROWS OF THIS SEAT. 12 by the template 'for every input the law returns true; each argument reads behind the call as it read before'; 0 by the template 'total and deterministic' (their statements: YtfcblicpfbfojaaTotals.lean).
  GIVEN WITH THE SEED: the statements are not yours to turn. If you find one false, say at which input.
  Laid BY PROGRAM, IN A SANDBOX (cutbox-rows.mjs): the forced cells as the released guide's own fill.sh prints them over the translation c7312d67a8b86abc… (all of the seat's roots in one cut). By AI agents, Wed Nov 11 2026. No macro, syntax, notation, axiom, sorry.
-/
import Derived.Test.YtfcblicpfbfojaaChecked
import GoSem.Claim
import GoSem.ClaimJoined
import GoSem.ClaimMapViews
import Derived.JoinedTies
import Derived.KernelRfl
namespace Go.Proofs.Ytfcblicpfbfojaa
/- THE CELL 'sum', in the pinned program and in every row, IS THE sha256 OF THE DUMP (.gsa) THAT YtfcblicpfbfojaaProg.lean LOADS. Nothing in Lean hashes anything: it is a label: what it is worth is what the hold of that sum in a sandbox is worth. -/
noncomputable def Try.pinned : Pinned := { name := "ytfcblicpfbfojaa", sum := "c7312d67a8b86abcd113bf55592e48c24d0c1f882f5e0913ce46aab2e66675f6", checked := Try.checked }
namespace Rows
def none {H : Type} : Left H := { results := [], args := [] }

/-- 'laws.FnExactCommandValid': WHATEVER THE INPUT: true; the input reads as it did. -/
def fnExactCommandValidSpec : ChangeSpec := { name := "fnExactCommandValid", fn := fun _ => fun
  | [d] => { results := [.lit (.bool true)], args := [d] }
  | _ => none }
def fnExactCommandValidRow : OpenClaim := { program := "ytfcblicpfbfojaa", sum := "c7312d67a8b86abcd113bf55592e48c24d0c1f882f5e0913ce46aab2e66675f6", func := "loop.example/memorymanagers/laws.FnExactCommandValid", spec := "fnExactCommandValid", apart := false }
def FnExactCommandValidSaid : Prop := fnExactCommandValidRow.holds Try.pinned (OpenSpec.ofChange fnExactCommandValidSpec)

/-- ITS FALSE NEIGHBOUR: 'it returns false'. Refute it at one input. -/
def fnExactCommandValidWrong : ChangeSpec := { name := "fnExactCommandValid", fn := fun _ => fun
  | [d] => { results := [.lit (.bool false)], args := [d] }
  | _ => none }
def FnExactCommandValidWrongFalsely : Prop := fnExactCommandValidRow.holds Try.pinned (OpenSpec.ofChange fnExactCommandValidWrong)

/-- 'laws.FnExactEmptyHeap': WHATEVER THE INPUT: true; the input reads as it did. -/
def fnExactEmptyHeapSpec : ChangeSpec := { name := "fnExactEmptyHeap", fn := fun _ => fun
  | [] => { results := [.lit (.bool true)], args := [] }
  | _ => none }
def fnExactEmptyHeapRow : OpenClaim := { program := "ytfcblicpfbfojaa", sum := "c7312d67a8b86abcd113bf55592e48c24d0c1f882f5e0913ce46aab2e66675f6", func := "loop.example/memorymanagers/laws.FnExactEmptyHeap", spec := "fnExactEmptyHeap", apart := false }
def FnExactEmptyHeapSaid : Prop := fnExactEmptyHeapRow.holds Try.pinned (OpenSpec.ofChange fnExactEmptyHeapSpec)

/-- ITS FALSE NEIGHBOUR: 'it returns false'. Refute it at one input. -/
def fnExactEmptyHeapWrong : ChangeSpec := { name := "fnExactEmptyHeap", fn := fun _ => fun
  | [] => { results := [.lit (.bool false)], args := [] }
  | _ => none }
def FnExactEmptyHeapWrongFalsely : Prop := fnExactEmptyHeapRow.holds Try.pinned (OpenSpec.ofChange fnExactEmptyHeapWrong)

/-- 'laws.FnExactCommandsValid': WHATEVER THE INPUT: true; the input reads as it did. -/
def fnExactCommandsValidSpec : ChangeSpec := { name := "fnExactCommandsValid", fn := fun _ => fun
  | [d] => { results := [.lit (.bool true)], args := [d] }
  | _ => none }
def fnExactCommandsValidRow : OpenClaim := { program := "ytfcblicpfbfojaa", sum := "c7312d67a8b86abcd113bf55592e48c24d0c1f882f5e0913ce46aab2e66675f6", func := "loop.example/memorymanagers/laws.FnExactCommandsValid", spec := "fnExactCommandsValid", apart := false }
def FnExactCommandsValidSaid : Prop := fnExactCommandsValidRow.holds Try.pinned (OpenSpec.ofChange fnExactCommandsValidSpec)

/-- ITS FALSE NEIGHBOUR: 'it returns false'. Refute it at one input. -/
def fnExactCommandsValidWrong : ChangeSpec := { name := "fnExactCommandsValid", fn := fun _ => fun
  | [d] => { results := [.lit (.bool false)], args := [d] }
  | _ => none }
def FnExactCommandsValidWrongFalsely : Prop := fnExactCommandsValidRow.holds Try.pinned (OpenSpec.ofChange fnExactCommandsValidWrong)

/-- 'laws.FnCommandValid': WHATEVER THE INPUT: true; the input reads as it did. -/
def fnCommandValidSpec : ChangeSpec := { name := "fnCommandValid", fn := fun _ => fun
  | [d] => { results := [.lit (.bool true)], args := [d] }
  | _ => none }
def fnCommandValidRow : OpenClaim := { program := "ytfcblicpfbfojaa", sum := "c7312d67a8b86abcd113bf55592e48c24d0c1f882f5e0913ce46aab2e66675f6", func := "loop.example/memorymanagers/laws.FnCommandValid", spec := "fnCommandValid", apart := false }
def FnCommandValidSaid : Prop := fnCommandValidRow.holds Try.pinned (OpenSpec.ofChange fnCommandValidSpec)

/-- ITS FALSE NEIGHBOUR: 'it returns false'. Refute it at one input. -/
def fnCommandValidWrong : ChangeSpec := { name := "fnCommandValid", fn := fun _ => fun
  | [d] => { results := [.lit (.bool false)], args := [d] }
  | _ => none }
def FnCommandValidWrongFalsely : Prop := fnCommandValidRow.holds Try.pinned (OpenSpec.ofChange fnCommandValidWrong)

/-- 'laws.FnEmptyHeap': WHATEVER THE INPUT: true; the input reads as it did. -/
def fnEmptyHeapSpec : ChangeSpec := { name := "fnEmptyHeap", fn := fun _ => fun
  | [d] => { results := [.lit (.bool true)], args := [d] }
  | _ => none }
def fnEmptyHeapRow : OpenClaim := { program := "ytfcblicpfbfojaa", sum := "c7312d67a8b86abcd113bf55592e48c24d0c1f882f5e0913ce46aab2e66675f6", func := "loop.example/memorymanagers/laws.FnEmptyHeap", spec := "fnEmptyHeap", unfollowed := true, recurses := true, apart := false }
def FnEmptyHeapSaid : Prop := fnEmptyHeapRow.holds Try.pinned (OpenSpec.ofChange fnEmptyHeapSpec)

/-- ITS FALSE NEIGHBOUR: 'it returns false'. Refute it at one input. -/
def fnEmptyHeapWrong : ChangeSpec := { name := "fnEmptyHeap", fn := fun _ => fun
  | [d] => { results := [.lit (.bool false)], args := [d] }
  | _ => none }
def FnEmptyHeapWrongFalsely : Prop := fnEmptyHeapRow.holds Try.pinned (OpenSpec.ofChange fnEmptyHeapWrong)

/-- 'laws.FnExactHeapValid': WHATEVER THE INPUT: true; the input reads as it did. -/
def fnExactHeapValidSpec : ChangeSpec := { name := "fnExactHeapValid", fn := fun _ => fun
  | [d] => { results := [.lit (.bool true)], args := [d] }
  | _ => none }
def fnExactHeapValidRow : OpenClaim := { program := "ytfcblicpfbfojaa", sum := "c7312d67a8b86abcd113bf55592e48c24d0c1f882f5e0913ce46aab2e66675f6", func := "loop.example/memorymanagers/laws.FnExactHeapValid", spec := "fnExactHeapValid", apart := false }
def FnExactHeapValidSaid : Prop := fnExactHeapValidRow.holds Try.pinned (OpenSpec.ofChange fnExactHeapValidSpec)

/-- ITS FALSE NEIGHBOUR: 'it returns false'. Refute it at one input. -/
def fnExactHeapValidWrong : ChangeSpec := { name := "fnExactHeapValid", fn := fun _ => fun
  | [d] => { results := [.lit (.bool false)], args := [d] }
  | _ => none }
def FnExactHeapValidWrongFalsely : Prop := fnExactHeapValidRow.holds Try.pinned (OpenSpec.ofChange fnExactHeapValidWrong)

/-- 'laws.FnCommandsValid': WHATEVER THE INPUT: true; the input reads as it did. -/
def fnCommandsValidSpec : ChangeSpec := { name := "fnCommandsValid", fn := fun _ => fun
  | [d] => { results := [.lit (.bool true)], args := [d] }
  | _ => none }
def fnCommandsValidRow : OpenClaim := { program := "ytfcblicpfbfojaa", sum := "c7312d67a8b86abcd113bf55592e48c24d0c1f882f5e0913ce46aab2e66675f6", func := "loop.example/memorymanagers/laws.FnCommandsValid", spec := "fnCommandsValid", apart := false }
def FnCommandsValidSaid : Prop := fnCommandsValidRow.holds Try.pinned (OpenSpec.ofChange fnCommandsValidSpec)

/-- ITS FALSE NEIGHBOUR: 'it returns false'. Refute it at one input. -/
def fnCommandsValidWrong : ChangeSpec := { name := "fnCommandsValid", fn := fun _ => fun
  | [d] => { results := [.lit (.bool false)], args := [d] }
  | _ => none }
def FnCommandsValidWrongFalsely : Prop := fnCommandsValidRow.holds Try.pinned (OpenSpec.ofChange fnCommandsValidWrong)

/-- 'laws.FnViewOf': WHATEVER THE INPUT: true; the input reads as it did. -/
def fnViewOfSpec : ChangeSpec := { name := "fnViewOf", fn := fun _ => fun
  | [d] => { results := [.lit (.bool true)], args := [d] }
  | _ => none }
def fnViewOfRow : OpenClaim := { program := "ytfcblicpfbfojaa", sum := "c7312d67a8b86abcd113bf55592e48c24d0c1f882f5e0913ce46aab2e66675f6", func := "loop.example/memorymanagers/laws.FnViewOf", spec := "fnViewOf", unfollowed := true, recurses := true, apart := false }
def FnViewOfSaid : Prop := fnViewOfRow.holds Try.pinned (OpenSpec.ofChange fnViewOfSpec)

/-- ITS FALSE NEIGHBOUR: 'it returns false'. Refute it at one input. -/
def fnViewOfWrong : ChangeSpec := { name := "fnViewOf", fn := fun _ => fun
  | [d] => { results := [.lit (.bool false)], args := [d] }
  | _ => none }
def FnViewOfWrongFalsely : Prop := fnViewOfRow.holds Try.pinned (OpenSpec.ofChange fnViewOfWrong)

/-- 'laws.FnExactFreePlace': WHATEVER THE INPUT: true; the input reads as it did. -/
def fnExactFreePlaceSpec : ChangeSpec := { name := "fnExactFreePlace", fn := fun _ => fun
  | [d] => { results := [.lit (.bool true)], args := [d] }
  | _ => none }
def fnExactFreePlaceRow : OpenClaim := { program := "ytfcblicpfbfojaa", sum := "c7312d67a8b86abcd113bf55592e48c24d0c1f882f5e0913ce46aab2e66675f6", func := "loop.example/memorymanagers/laws.FnExactFreePlace", spec := "fnExactFreePlace", apart := false }
def FnExactFreePlaceSaid : Prop := fnExactFreePlaceRow.holds Try.pinned (OpenSpec.ofChange fnExactFreePlaceSpec)

/-- ITS FALSE NEIGHBOUR: 'it returns false'. Refute it at one input. -/
def fnExactFreePlaceWrong : ChangeSpec := { name := "fnExactFreePlace", fn := fun _ => fun
  | [d] => { results := [.lit (.bool false)], args := [d] }
  | _ => none }
def FnExactFreePlaceWrongFalsely : Prop := fnExactFreePlaceRow.holds Try.pinned (OpenSpec.ofChange fnExactFreePlaceWrong)

/-- 'laws.FnExactCopySteps': WHATEVER THE INPUT: true; the input reads as it did. -/
def fnExactCopyStepsSpec : ChangeSpec := { name := "fnExactCopySteps", fn := fun _ => fun
  | [d] => { results := [.lit (.bool true)], args := [d] }
  | _ => none }
def fnExactCopyStepsRow : OpenClaim := { program := "ytfcblicpfbfojaa", sum := "c7312d67a8b86abcd113bf55592e48c24d0c1f882f5e0913ce46aab2e66675f6", func := "loop.example/memorymanagers/laws.FnExactCopySteps", spec := "fnExactCopySteps", unfollowed := true, recurses := true, apart := false }
def FnExactCopyStepsSaid : Prop := fnExactCopyStepsRow.holds Try.pinned (OpenSpec.ofChange fnExactCopyStepsSpec)

/-- ITS FALSE NEIGHBOUR: 'it returns false'. Refute it at one input. -/
def fnExactCopyStepsWrong : ChangeSpec := { name := "fnExactCopySteps", fn := fun _ => fun
  | [d] => { results := [.lit (.bool false)], args := [d] }
  | _ => none }
def FnExactCopyStepsWrongFalsely : Prop := fnExactCopyStepsRow.holds Try.pinned (OpenSpec.ofChange fnExactCopyStepsWrong)

/-- 'laws.FnExactMarkDepth': WHATEVER THE INPUT: true; the input reads as it did. -/
def fnExactMarkDepthSpec : ChangeSpec := { name := "fnExactMarkDepth", fn := fun _ => fun
  | [d] => { results := [.lit (.bool true)], args := [d] }
  | _ => none }
def fnExactMarkDepthRow : OpenClaim := { program := "ytfcblicpfbfojaa", sum := "c7312d67a8b86abcd113bf55592e48c24d0c1f882f5e0913ce46aab2e66675f6", func := "loop.example/memorymanagers/laws.FnExactMarkDepth", spec := "fnExactMarkDepth", unfollowed := true, recurses := true, apart := false }
def FnExactMarkDepthSaid : Prop := fnExactMarkDepthRow.holds Try.pinned (OpenSpec.ofChange fnExactMarkDepthSpec)

/-- ITS FALSE NEIGHBOUR: 'it returns false'. Refute it at one input. -/
def fnExactMarkDepthWrong : ChangeSpec := { name := "fnExactMarkDepth", fn := fun _ => fun
  | [d] => { results := [.lit (.bool false)], args := [d] }
  | _ => none }
def FnExactMarkDepthWrongFalsely : Prop := fnExactMarkDepthRow.holds Try.pinned (OpenSpec.ofChange fnExactMarkDepthWrong)

/-- 'laws.FnExactRefCounts': WHATEVER THE INPUT: true; the input reads as it did. -/
def fnExactRefCountsSpec : ChangeSpec := { name := "fnExactRefCounts", fn := fun _ => fun
  | [d] => { results := [.lit (.bool true)], args := [d] }
  | _ => none }
def fnExactRefCountsRow : OpenClaim := { program := "ytfcblicpfbfojaa", sum := "c7312d67a8b86abcd113bf55592e48c24d0c1f882f5e0913ce46aab2e66675f6", func := "loop.example/memorymanagers/laws.FnExactRefCounts", spec := "fnExactRefCounts", unfollowed := true, recurses := true, apart := false }
def FnExactRefCountsSaid : Prop := fnExactRefCountsRow.holds Try.pinned (OpenSpec.ofChange fnExactRefCountsSpec)

/-- ITS FALSE NEIGHBOUR: 'it returns false'. Refute it at one input. -/
def fnExactRefCountsWrong : ChangeSpec := { name := "fnExactRefCounts", fn := fun _ => fun
  | [d] => { results := [.lit (.bool false)], args := [d] }
  | _ => none }
def FnExactRefCountsWrongFalsely : Prop := fnExactRefCountsRow.holds Try.pinned (OpenSpec.ofChange fnExactRefCountsWrong)

/- THE SECOND FORM. 'bulk': how many values and letters a reading holds, each counted each time it is reached (what is shared counts as often as it is met; a slice's spare places count too). A statement '..UptoSaid' is the law's where the arguments, and the package variables that the reading takes, are together of bulk at most 1048576: NARROWER than '..Said'. Prove '..Said' where nothing that the law and all that it calls make is longer than what came in: it says more and counts as full. Else prove '..UptoSaid'. A law counts once. -/
mutual
def uptoBulk {H : Type} : DataW H → Nat
  | .lit (.string bytes) => bytes.length + 1
  | .lit _ => 1
  | .nil => 1
  | .ptr d => uptoBulk d + 1
  | .slice elems spare => uptoBulkAll elems + uptoBulkAll spare + 1
  | .agg parts => uptoBulkAll parts + 1
  | .iface _ d => uptoBulk d + 1
  | .map entries => uptoBulkEntries entries + 1
  | .held _ => 1
def uptoBulkAll {H : Type} : List (DataW H) → Nat
  | [] => 0
  | d :: r => uptoBulk d + uptoBulkAll r
def uptoBulkEntries {H : Type} : List (Lit × DataW H) → Nat
  | [] => 0
  | x :: r => uptoBulkEntry x + uptoBulkEntries r
def uptoBulkEntry {H : Type} : Lit × DataW H → Nat
  | (.string bytes, d) => bytes.length + uptoBulk d + 1
  | (_, d) => uptoBulk d + 1
 end
def uptoSmall : (H : Type) → List (DataW H) → Bool := fun _ ds => decide (uptoBulkAll ds ≤ 1048576)
def OpenSpec.upto (s : _root_.Go.ChangeSpec) : _root_.Go.OpenSpec := { _root_.Go.OpenSpec.ofChange s with cond := some uptoSmall }

/-- 'laws.FnExactCommandValid', WHERE WHAT IT READS IS OF BULK AT MOST 1048576: true; the input reads as it did. -/
def fnExactCommandValidUptoRow : OpenClaim := { program := "ytfcblicpfbfojaa", sum := "c7312d67a8b86abcd113bf55592e48c24d0c1f882f5e0913ce46aab2e66675f6", func := "loop.example/memorymanagers/laws.FnExactCommandValid", spec := "fnExactCommandValid", apart := false, narrowed := true }
def FnExactCommandValidUptoSaid : Prop := fnExactCommandValidUptoRow.holds Try.pinned (OpenSpec.upto fnExactCommandValidSpec)

/-- 'laws.FnExactEmptyHeap', WHERE WHAT IT READS IS OF BULK AT MOST 1048576: true; the input reads as it did. -/
def fnExactEmptyHeapUptoRow : OpenClaim := { program := "ytfcblicpfbfojaa", sum := "c7312d67a8b86abcd113bf55592e48c24d0c1f882f5e0913ce46aab2e66675f6", func := "loop.example/memorymanagers/laws.FnExactEmptyHeap", spec := "fnExactEmptyHeap", apart := false, narrowed := true }
def FnExactEmptyHeapUptoSaid : Prop := fnExactEmptyHeapUptoRow.holds Try.pinned (OpenSpec.upto fnExactEmptyHeapSpec)

/-- 'laws.FnExactCommandsValid', WHERE WHAT IT READS IS OF BULK AT MOST 1048576: true; the input reads as it did. -/
def fnExactCommandsValidUptoRow : OpenClaim := { program := "ytfcblicpfbfojaa", sum := "c7312d67a8b86abcd113bf55592e48c24d0c1f882f5e0913ce46aab2e66675f6", func := "loop.example/memorymanagers/laws.FnExactCommandsValid", spec := "fnExactCommandsValid", apart := false, narrowed := true }
def FnExactCommandsValidUptoSaid : Prop := fnExactCommandsValidUptoRow.holds Try.pinned (OpenSpec.upto fnExactCommandsValidSpec)

/-- 'laws.FnCommandValid', WHERE WHAT IT READS IS OF BULK AT MOST 1048576: true; the input reads as it did. -/
def fnCommandValidUptoRow : OpenClaim := { program := "ytfcblicpfbfojaa", sum := "c7312d67a8b86abcd113bf55592e48c24d0c1f882f5e0913ce46aab2e66675f6", func := "loop.example/memorymanagers/laws.FnCommandValid", spec := "fnCommandValid", apart := false, narrowed := true }
def FnCommandValidUptoSaid : Prop := fnCommandValidUptoRow.holds Try.pinned (OpenSpec.upto fnCommandValidSpec)

/-- 'laws.FnEmptyHeap', WHERE WHAT IT READS IS OF BULK AT MOST 1048576: true; the input reads as it did. -/
def fnEmptyHeapUptoRow : OpenClaim := { program := "ytfcblicpfbfojaa", sum := "c7312d67a8b86abcd113bf55592e48c24d0c1f882f5e0913ce46aab2e66675f6", func := "loop.example/memorymanagers/laws.FnEmptyHeap", spec := "fnEmptyHeap", unfollowed := true, recurses := true, apart := false, narrowed := true }
def FnEmptyHeapUptoSaid : Prop := fnEmptyHeapUptoRow.holds Try.pinned (OpenSpec.upto fnEmptyHeapSpec)

/-- 'laws.FnExactHeapValid', WHERE WHAT IT READS IS OF BULK AT MOST 1048576: true; the input reads as it did. -/
def fnExactHeapValidUptoRow : OpenClaim := { program := "ytfcblicpfbfojaa", sum := "c7312d67a8b86abcd113bf55592e48c24d0c1f882f5e0913ce46aab2e66675f6", func := "loop.example/memorymanagers/laws.FnExactHeapValid", spec := "fnExactHeapValid", apart := false, narrowed := true }
def FnExactHeapValidUptoSaid : Prop := fnExactHeapValidUptoRow.holds Try.pinned (OpenSpec.upto fnExactHeapValidSpec)

/-- 'laws.FnCommandsValid', WHERE WHAT IT READS IS OF BULK AT MOST 1048576: true; the input reads as it did. -/
def fnCommandsValidUptoRow : OpenClaim := { program := "ytfcblicpfbfojaa", sum := "c7312d67a8b86abcd113bf55592e48c24d0c1f882f5e0913ce46aab2e66675f6", func := "loop.example/memorymanagers/laws.FnCommandsValid", spec := "fnCommandsValid", apart := false, narrowed := true }
def FnCommandsValidUptoSaid : Prop := fnCommandsValidUptoRow.holds Try.pinned (OpenSpec.upto fnCommandsValidSpec)

/-- 'laws.FnViewOf', WHERE WHAT IT READS IS OF BULK AT MOST 1048576: true; the input reads as it did. -/
def fnViewOfUptoRow : OpenClaim := { program := "ytfcblicpfbfojaa", sum := "c7312d67a8b86abcd113bf55592e48c24d0c1f882f5e0913ce46aab2e66675f6", func := "loop.example/memorymanagers/laws.FnViewOf", spec := "fnViewOf", unfollowed := true, recurses := true, apart := false, narrowed := true }
def FnViewOfUptoSaid : Prop := fnViewOfUptoRow.holds Try.pinned (OpenSpec.upto fnViewOfSpec)

/-- 'laws.FnExactFreePlace', WHERE WHAT IT READS IS OF BULK AT MOST 1048576: true; the input reads as it did. -/
def fnExactFreePlaceUptoRow : OpenClaim := { program := "ytfcblicpfbfojaa", sum := "c7312d67a8b86abcd113bf55592e48c24d0c1f882f5e0913ce46aab2e66675f6", func := "loop.example/memorymanagers/laws.FnExactFreePlace", spec := "fnExactFreePlace", apart := false, narrowed := true }
def FnExactFreePlaceUptoSaid : Prop := fnExactFreePlaceUptoRow.holds Try.pinned (OpenSpec.upto fnExactFreePlaceSpec)

/-- 'laws.FnExactCopySteps', WHERE WHAT IT READS IS OF BULK AT MOST 1048576: true; the input reads as it did. -/
def fnExactCopyStepsUptoRow : OpenClaim := { program := "ytfcblicpfbfojaa", sum := "c7312d67a8b86abcd113bf55592e48c24d0c1f882f5e0913ce46aab2e66675f6", func := "loop.example/memorymanagers/laws.FnExactCopySteps", spec := "fnExactCopySteps", unfollowed := true, recurses := true, apart := false, narrowed := true }
def FnExactCopyStepsUptoSaid : Prop := fnExactCopyStepsUptoRow.holds Try.pinned (OpenSpec.upto fnExactCopyStepsSpec)

/-- 'laws.FnExactMarkDepth', WHERE WHAT IT READS IS OF BULK AT MOST 1048576: true; the input reads as it did. -/
def fnExactMarkDepthUptoRow : OpenClaim := { program := "ytfcblicpfbfojaa", sum := "c7312d67a8b86abcd113bf55592e48c24d0c1f882f5e0913ce46aab2e66675f6", func := "loop.example/memorymanagers/laws.FnExactMarkDepth", spec := "fnExactMarkDepth", unfollowed := true, recurses := true, apart := false, narrowed := true }
def FnExactMarkDepthUptoSaid : Prop := fnExactMarkDepthUptoRow.holds Try.pinned (OpenSpec.upto fnExactMarkDepthSpec)

/-- 'laws.FnExactRefCounts', WHERE WHAT IT READS IS OF BULK AT MOST 1048576: true; the input reads as it did. -/
def fnExactRefCountsUptoRow : OpenClaim := { program := "ytfcblicpfbfojaa", sum := "c7312d67a8b86abcd113bf55592e48c24d0c1f882f5e0913ce46aab2e66675f6", func := "loop.example/memorymanagers/laws.FnExactRefCounts", spec := "fnExactRefCounts", unfollowed := true, recurses := true, apart := false, narrowed := true }
def FnExactRefCountsUptoSaid : Prop := fnExactRefCountsUptoRow.holds Try.pinned (OpenSpec.upto fnExactRefCountsSpec)

end Rows
end Go.Proofs.Ytfcblicpfbfojaa
