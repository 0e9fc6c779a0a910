/-
  No cell of these rows narrows 'for every input' (looked for: loops, veiled, ifaces, maps, wideKeys, modest, calm, conditions, laid).
  DERIVED. THE GIVEN ROWS OF THIS SEAT. 8 by the template 'for every input the law returns true; each argument reads behind the call as it read before'; 0 by the template 'total and deterministic' (their statements: YtikgflhepclfgacTotals.lean).
  GIVEN WITH THE SEED: the statements are not yours to turn. If you find one false, say at which input.
  Laid BY PROGRAM, IN A SANDBOX (cutbox-rows.mjs): the forced cells as the released guide's own fill.sh prints them over the translation a6711f9e639d6129… (all of the seat's roots in one cut). By AI agents, Wed Nov 11 2026. No macro, syntax, notation, axiom, sorry.
-/
import Derived.Test.YtikgflhepclfgacChecked
import GoSem.Claim
import GoSem.ClaimJoined
import GoSem.ClaimMapViews
import Derived.JoinedTies
import Derived.KernelRfl
namespace Go.Proofs.Ytikgflhepclfgac
/- THE CELL 'sum', in the pinned program and in every row, IS THE sha256 OF THE DUMP (.gsa) THAT YtikgflhepclfgacProg.lean LOADS. Nothing in Lean hashes anything: it is a label: what it is worth is what the hold of that sum in a sandbox is worth. -/
noncomputable def Try.pinned : Pinned := { name := "ytikgflhepclfgac", sum := "a6711f9e639d6129412abb97ceeef49d8bb3a85cbaba63e9db08701770d89a4f", checked := Try.checked }
namespace Rows
def none {H : Type} : Left H := { results := [], args := [] }

/-- 'laws.FnExactMarkBounded': WHATEVER THE INPUT: true; the input reads as it did. -/
def fnExactMarkBoundedSpec : ChangeSpec := { name := "fnExactMarkBounded", fn := fun _ => fun
  | [d1, d2] => { results := [.lit (.bool true)], args := [d1, d2] }
  | _ => none }
def fnExactMarkBoundedRow : OpenClaim := { program := "ytikgflhepclfgac", sum := "a6711f9e639d6129412abb97ceeef49d8bb3a85cbaba63e9db08701770d89a4f", func := "loop.example/memorymanagers/laws.FnExactMarkBounded", spec := "fnExactMarkBounded", apart := false }
def FnExactMarkBoundedSaid : Prop := fnExactMarkBoundedRow.holds Try.pinned (OpenSpec.ofChange fnExactMarkBoundedSpec)

/-- ITS FALSE NEIGHBOUR: 'it returns false'. Refute it at one input. -/
def fnExactMarkBoundedWrong : ChangeSpec := { name := "fnExactMarkBounded", fn := fun _ => fun
  | [d1, d2] => { results := [.lit (.bool false)], args := [d1, d2] }
  | _ => none }
def FnExactMarkBoundedWrongFalsely : Prop := fnExactMarkBoundedRow.holds Try.pinned (OpenSpec.ofChange fnExactMarkBoundedWrong)

/-- 'laws.FnMarkBounded': WHATEVER THE INPUT: true; the input reads as it did. -/
def fnMarkBoundedSpec : ChangeSpec := { name := "fnMarkBounded", fn := fun _ => fun
  | [d] => { results := [.lit (.bool true)], args := [d] }
  | _ => none }
def fnMarkBoundedRow : OpenClaim := { program := "ytikgflhepclfgac", sum := "a6711f9e639d6129412abb97ceeef49d8bb3a85cbaba63e9db08701770d89a4f", func := "loop.example/memorymanagers/laws.FnMarkBounded", spec := "fnMarkBounded", unfollowed := true, recurses := true, apart := false }
def FnMarkBoundedSaid : Prop := fnMarkBoundedRow.holds Try.pinned (OpenSpec.ofChange fnMarkBoundedSpec)

/-- ITS FALSE NEIGHBOUR: 'it returns false'. Refute it at one input. -/
def fnMarkBoundedWrong : ChangeSpec := { name := "fnMarkBounded", fn := fun _ => fun
  | [d] => { results := [.lit (.bool false)], args := [d] }
  | _ => none }
def FnMarkBoundedWrongFalsely : Prop := fnMarkBoundedRow.holds Try.pinned (OpenSpec.ofChange fnMarkBoundedWrong)

/-- 'laws.FnHeapOf': WHATEVER THE INPUT: true; the input reads as it did. -/
def fnHeapOfSpec : ChangeSpec := { name := "fnHeapOf", fn := fun _ => fun
  | [d] => { results := [.lit (.bool true)], args := [d] }
  | _ => none }
def fnHeapOfRow : OpenClaim := { program := "ytikgflhepclfgac", sum := "a6711f9e639d6129412abb97ceeef49d8bb3a85cbaba63e9db08701770d89a4f", func := "loop.example/memorymanagers/laws.FnHeapOf", spec := "fnHeapOf", unfollowed := true, recurses := true, apart := false }
def FnHeapOfSaid : Prop := fnHeapOfRow.holds Try.pinned (OpenSpec.ofChange fnHeapOfSpec)

/-- ITS FALSE NEIGHBOUR: 'it returns false'. Refute it at one input. -/
def fnHeapOfWrong : ChangeSpec := { name := "fnHeapOf", fn := fun _ => fun
  | [d] => { results := [.lit (.bool false)], args := [d] }
  | _ => none }
def FnHeapOfWrongFalsely : Prop := fnHeapOfRow.holds Try.pinned (OpenSpec.ofChange fnHeapOfWrong)

/-- 'laws.FnCollectCycles': WHATEVER THE INPUT: true; the input reads as it did. -/
def fnCollectCyclesSpec : ChangeSpec := { name := "fnCollectCycles", fn := fun _ => fun
  | [d] => { results := [.lit (.bool true)], args := [d] }
  | _ => none }
def fnCollectCyclesRow : OpenClaim := { program := "ytikgflhepclfgac", sum := "a6711f9e639d6129412abb97ceeef49d8bb3a85cbaba63e9db08701770d89a4f", func := "loop.example/memorymanagers/laws.FnCollectCycles", spec := "fnCollectCycles", unfollowed := true, recurses := true, apart := false }
def FnCollectCyclesSaid : Prop := fnCollectCyclesRow.holds Try.pinned (OpenSpec.ofChange fnCollectCyclesSpec)

/-- ITS FALSE NEIGHBOUR: 'it returns false'. Refute it at one input. -/
def fnCollectCyclesWrong : ChangeSpec := { name := "fnCollectCycles", fn := fun _ => fun
  | [d] => { results := [.lit (.bool false)], args := [d] }
  | _ => none }
def FnCollectCyclesWrongFalsely : Prop := fnCollectCyclesRow.holds Try.pinned (OpenSpec.ofChange fnCollectCyclesWrong)

/-- 'laws.FnSweepCells': WHATEVER THE INPUT: true; the input reads as it did. -/
def fnSweepCellsSpec : ChangeSpec := { name := "fnSweepCells", fn := fun _ => fun
  | [d] => { results := [.lit (.bool true)], args := [d] }
  | _ => none }
def fnSweepCellsRow : OpenClaim := { program := "ytikgflhepclfgac", sum := "a6711f9e639d6129412abb97ceeef49d8bb3a85cbaba63e9db08701770d89a4f", func := "loop.example/memorymanagers/laws.FnSweepCells", spec := "fnSweepCells", unfollowed := true, recurses := true, apart := false }
def FnSweepCellsSaid : Prop := fnSweepCellsRow.holds Try.pinned (OpenSpec.ofChange fnSweepCellsSpec)

/-- ITS FALSE NEIGHBOUR: 'it returns false'. Refute it at one input. -/
def fnSweepCellsWrong : ChangeSpec := { name := "fnSweepCells", fn := fun _ => fun
  | [d] => { results := [.lit (.bool false)], args := [d] }
  | _ => none }
def FnSweepCellsWrongFalsely : Prop := fnSweepCellsRow.holds Try.pinned (OpenSpec.ofChange fnSweepCellsWrong)

/-- 'laws.FnSweepTwice': WHATEVER THE INPUT: true; the input reads as it did. -/
def fnSweepTwiceSpec : ChangeSpec := { name := "fnSweepTwice", fn := fun _ => fun
  | [d] => { results := [.lit (.bool true)], args := [d] }
  | _ => none }
def fnSweepTwiceRow : OpenClaim := { program := "ytikgflhepclfgac", sum := "a6711f9e639d6129412abb97ceeef49d8bb3a85cbaba63e9db08701770d89a4f", func := "loop.example/memorymanagers/laws.FnSweepTwice", spec := "fnSweepTwice", unfollowed := true, recurses := true, apart := false }
def FnSweepTwiceSaid : Prop := fnSweepTwiceRow.holds Try.pinned (OpenSpec.ofChange fnSweepTwiceSpec)

/-- ITS FALSE NEIGHBOUR: 'it returns false'. Refute it at one input. -/
def fnSweepTwiceWrong : ChangeSpec := { name := "fnSweepTwice", fn := fun _ => fun
  | [d] => { results := [.lit (.bool false)], args := [d] }
  | _ => none }
def FnSweepTwiceWrongFalsely : Prop := fnSweepTwiceRow.holds Try.pinned (OpenSpec.ofChange fnSweepTwiceWrong)

/-- 'laws.FnCopyHeap': WHATEVER THE INPUT: true; the input reads as it did. -/
def fnCopyHeapSpec : ChangeSpec := { name := "fnCopyHeap", fn := fun _ => fun
  | [d] => { results := [.lit (.bool true)], args := [d] }
  | _ => none }
def fnCopyHeapRow : OpenClaim := { program := "ytikgflhepclfgac", sum := "a6711f9e639d6129412abb97ceeef49d8bb3a85cbaba63e9db08701770d89a4f", func := "loop.example/memorymanagers/laws.FnCopyHeap", spec := "fnCopyHeap", unfollowed := true, recurses := true, apart := false }
def FnCopyHeapSaid : Prop := fnCopyHeapRow.holds Try.pinned (OpenSpec.ofChange fnCopyHeapSpec)

/-- ITS FALSE NEIGHBOUR: 'it returns false'. Refute it at one input. -/
def fnCopyHeapWrong : ChangeSpec := { name := "fnCopyHeap", fn := fun _ => fun
  | [d] => { results := [.lit (.bool false)], args := [d] }
  | _ => none }
def FnCopyHeapWrongFalsely : Prop := fnCopyHeapRow.holds Try.pinned (OpenSpec.ofChange fnCopyHeapWrong)

/-- 'laws.FnCollectSweep': WHATEVER THE INPUT: true; the input reads as it did. -/
def fnCollectSweepSpec : ChangeSpec := { name := "fnCollectSweep", fn := fun _ => fun
  | [d] => { results := [.lit (.bool true)], args := [d] }
  | _ => none }
def fnCollectSweepRow : OpenClaim := { program := "ytikgflhepclfgac", sum := "a6711f9e639d6129412abb97ceeef49d8bb3a85cbaba63e9db08701770d89a4f", func := "loop.example/memorymanagers/laws.FnCollectSweep", spec := "fnCollectSweep", unfollowed := true, recurses := true, apart := false }
def FnCollectSweepSaid : Prop := fnCollectSweepRow.holds Try.pinned (OpenSpec.ofChange fnCollectSweepSpec)

/-- ITS FALSE NEIGHBOUR: 'it returns false'. Refute it at one input. -/
def fnCollectSweepWrong : ChangeSpec := { name := "fnCollectSweep", fn := fun _ => fun
  | [d] => { results := [.lit (.bool false)], args := [d] }
  | _ => none }
def FnCollectSweepWrongFalsely : Prop := fnCollectSweepRow.holds Try.pinned (OpenSpec.ofChange fnCollectSweepWrong)

/- THE SECOND FORM. 'bulk': how many values and letters a reading holds, each counted each time it is reached (what is shared counts as often as it is met; a slice's spare places count too). A statement '..UptoSaid' is the law's where the arguments, and the package variables that the reading takes, are together of bulk at most 1048576: NARROWER than '..Said'. Prove '..Said' where nothing that the law and all that it calls make is longer than what came in: it says more and counts as full. Else prove '..UptoSaid'. A law counts once. -/
mutual
def uptoBulk {H : Type} : DataW H → Nat
  | .lit (.string bytes) => bytes.length + 1
  | .lit _ => 1
  | .nil => 1
  | .ptr d => uptoBulk d + 1
  | .slice elems spare => uptoBulkAll elems + uptoBulkAll spare + 1
  | .agg parts => uptoBulkAll parts + 1
  | .iface _ d => uptoBulk d + 1
  | .map entries => uptoBulkEntries entries + 1
  | .held _ => 1
def uptoBulkAll {H : Type} : List (DataW H) → Nat
  | [] => 0
  | d :: r => uptoBulk d + uptoBulkAll r
def uptoBulkEntries {H : Type} : List (Lit × DataW H) → Nat
  | [] => 0
  | x :: r => uptoBulkEntry x + uptoBulkEntries r
def uptoBulkEntry {H : Type} : Lit × DataW H → Nat
  | (.string bytes, d) => bytes.length + uptoBulk d + 1
  | (_, d) => uptoBulk d + 1
 end
def uptoSmall : (H : Type) → List (DataW H) → Bool := fun _ ds => decide (uptoBulkAll ds ≤ 1048576)
def OpenSpec.upto (s : _root_.Go.ChangeSpec) : _root_.Go.OpenSpec := { _root_.Go.OpenSpec.ofChange s with cond := some uptoSmall }

/-- 'laws.FnExactMarkBounded', WHERE WHAT IT READS IS OF BULK AT MOST 1048576: true; the input reads as it did. -/
def fnExactMarkBoundedUptoRow : OpenClaim := { program := "ytikgflhepclfgac", sum := "a6711f9e639d6129412abb97ceeef49d8bb3a85cbaba63e9db08701770d89a4f", func := "loop.example/memorymanagers/laws.FnExactMarkBounded", spec := "fnExactMarkBounded", apart := false, narrowed := true }
def FnExactMarkBoundedUptoSaid : Prop := fnExactMarkBoundedUptoRow.holds Try.pinned (OpenSpec.upto fnExactMarkBoundedSpec)

/-- 'laws.FnMarkBounded', WHERE WHAT IT READS IS OF BULK AT MOST 1048576: true; the input reads as it did. -/
def fnMarkBoundedUptoRow : OpenClaim := { program := "ytikgflhepclfgac", sum := "a6711f9e639d6129412abb97ceeef49d8bb3a85cbaba63e9db08701770d89a4f", func := "loop.example/memorymanagers/laws.FnMarkBounded", spec := "fnMarkBounded", unfollowed := true, recurses := true, apart := false, narrowed := true }
def FnMarkBoundedUptoSaid : Prop := fnMarkBoundedUptoRow.holds Try.pinned (OpenSpec.upto fnMarkBoundedSpec)

/-- 'laws.FnHeapOf', WHERE WHAT IT READS IS OF BULK AT MOST 1048576: true; the input reads as it did. -/
def fnHeapOfUptoRow : OpenClaim := { program := "ytikgflhepclfgac", sum := "a6711f9e639d6129412abb97ceeef49d8bb3a85cbaba63e9db08701770d89a4f", func := "loop.example/memorymanagers/laws.FnHeapOf", spec := "fnHeapOf", unfollowed := true, recurses := true, apart := false, narrowed := true }
def FnHeapOfUptoSaid : Prop := fnHeapOfUptoRow.holds Try.pinned (OpenSpec.upto fnHeapOfSpec)

/-- 'laws.FnCollectCycles', WHERE WHAT IT READS IS OF BULK AT MOST 1048576: true; the input reads as it did. -/
def fnCollectCyclesUptoRow : OpenClaim := { program := "ytikgflhepclfgac", sum := "a6711f9e639d6129412abb97ceeef49d8bb3a85cbaba63e9db08701770d89a4f", func := "loop.example/memorymanagers/laws.FnCollectCycles", spec := "fnCollectCycles", unfollowed := true, recurses := true, apart := false, narrowed := true }
def FnCollectCyclesUptoSaid : Prop := fnCollectCyclesUptoRow.holds Try.pinned (OpenSpec.upto fnCollectCyclesSpec)

/-- 'laws.FnSweepCells', WHERE WHAT IT READS IS OF BULK AT MOST 1048576: true; the input reads as it did. -/
def fnSweepCellsUptoRow : OpenClaim := { program := "ytikgflhepclfgac", sum := "a6711f9e639d6129412abb97ceeef49d8bb3a85cbaba63e9db08701770d89a4f", func := "loop.example/memorymanagers/laws.FnSweepCells", spec := "fnSweepCells", unfollowed := true, recurses := true, apart := false, narrowed := true }
def FnSweepCellsUptoSaid : Prop := fnSweepCellsUptoRow.holds Try.pinned (OpenSpec.upto fnSweepCellsSpec)

/-- 'laws.FnSweepTwice', WHERE WHAT IT READS IS OF BULK AT MOST 1048576: true; the input reads as it did. -/
def fnSweepTwiceUptoRow : OpenClaim := { program := "ytikgflhepclfgac", sum := "a6711f9e639d6129412abb97ceeef49d8bb3a85cbaba63e9db08701770d89a4f", func := "loop.example/memorymanagers/laws.FnSweepTwice", spec := "fnSweepTwice", unfollowed := true, recurses := true, apart := false, narrowed := true }
def FnSweepTwiceUptoSaid : Prop := fnSweepTwiceUptoRow.holds Try.pinned (OpenSpec.upto fnSweepTwiceSpec)

/-- 'laws.FnCopyHeap', WHERE WHAT IT READS IS OF BULK AT MOST 1048576: true; the input reads as it did. -/
def fnCopyHeapUptoRow : OpenClaim := { program := "ytikgflhepclfgac", sum := "a6711f9e639d6129412abb97ceeef49d8bb3a85cbaba63e9db08701770d89a4f", func := "loop.example/memorymanagers/laws.FnCopyHeap", spec := "fnCopyHeap", unfollowed := true, recurses := true, apart := false, narrowed := true }
def FnCopyHeapUptoSaid : Prop := fnCopyHeapUptoRow.holds Try.pinned (OpenSpec.upto fnCopyHeapSpec)

/-- 'laws.FnCollectSweep', WHERE WHAT IT READS IS OF BULK AT MOST 1048576: true; the input reads as it did. -/
def fnCollectSweepUptoRow : OpenClaim := { program := "ytikgflhepclfgac", sum := "a6711f9e639d6129412abb97ceeef49d8bb3a85cbaba63e9db08701770d89a4f", func := "loop.example/memorymanagers/laws.FnCollectSweep", spec := "fnCollectSweep", unfollowed := true, recurses := true, apart := false, narrowed := true }
def FnCollectSweepUptoSaid : Prop := fnCollectSweepUptoRow.holds Try.pinned (OpenSpec.upto fnCollectSweepSpec)

end Rows
end Go.Proofs.Ytikgflhepclfgac
