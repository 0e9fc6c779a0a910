/-
  No cell of these rows narrows 'for every input' (looked for: loops, veiled, ifaces, maps, wideKeys, modest, calm, conditions, laid).
  DERIVED. THE GIVEN ROWS OF THIS SEAT. 7 by the template 'for every input the law returns true; each argument reads behind the call as it read before'; 0 by the template 'total and deterministic' (their statements: YtjmfdmndchoplaaTotals.lean).
  GIVEN WITH THE SEED: the statements are not yours to turn. If you find one false, say at which input.
  Laid BY PROGRAM, IN A SANDBOX (cutbox-rows.mjs): the forced cells as the released guide's own fill.sh prints them over the translation ccded9b6a98bf194… (all of the seat's roots in one cut). By AI agents, Wed Nov 11 2026. No macro, syntax, notation, axiom, sorry.
-/
import Derived.Test.YtjmfdmndchoplaaChecked
import GoSem.Claim
import GoSem.ClaimJoined
import GoSem.ClaimMapViews
import Derived.JoinedTies
import Derived.KernelRfl
namespace Go.Proofs.Ytjmfdmndchoplaa
/- THE CELL 'sum', in the pinned program and in every row, IS THE sha256 OF THE DUMP (.gsa) THAT YtjmfdmndchoplaaProg.lean LOADS. Nothing in Lean hashes anything: it is a label: what it is worth is what the hold of that sum in a sandbox is worth. -/
noncomputable def Try.pinned : Pinned := { name := "ytjmfdmndchoplaa", sum := "ccded9b6a98bf19430cf1ad5709c538e97365e73e7c74b67b54f956e297939fd", checked := Try.checked }
namespace Rows
def none {H : Type} : Left H := { results := [], args := [] }

/-- 'laws.FnExactHeapOf': WHATEVER THE INPUT: true; the input reads as it did. -/
def fnExactHeapOfSpec : ChangeSpec := { name := "fnExactHeapOf", fn := fun _ => fun
  | [d] => { results := [.lit (.bool true)], args := [d] }
  | _ => none }
def fnExactHeapOfRow : OpenClaim := { program := "ytjmfdmndchoplaa", sum := "ccded9b6a98bf19430cf1ad5709c538e97365e73e7c74b67b54f956e297939fd", func := "loop.example/memorymanagers/laws.FnExactHeapOf", spec := "fnExactHeapOf", unfollowed := true, recurses := true, apart := false }
def FnExactHeapOfSaid : Prop := fnExactHeapOfRow.holds Try.pinned (OpenSpec.ofChange fnExactHeapOfSpec)

/-- ITS FALSE NEIGHBOUR: 'it returns false'. Refute it at one input. -/
def fnExactHeapOfWrong : ChangeSpec := { name := "fnExactHeapOf", fn := fun _ => fun
  | [d] => { results := [.lit (.bool false)], args := [d] }
  | _ => none }
def FnExactHeapOfWrongFalsely : Prop := fnExactHeapOfRow.holds Try.pinned (OpenSpec.ofChange fnExactHeapOfWrong)

/-- 'laws.FnExactMarkBounded': WHATEVER THE INPUT: true; the input reads as it did. -/
def fnExactMarkBoundedSpec : ChangeSpec := { name := "fnExactMarkBounded", fn := fun _ => fun
  | [d1, d2] => { results := [.lit (.bool true)], args := [d1, d2] }
  | _ => none }
def fnExactMarkBoundedRow : OpenClaim := { program := "ytjmfdmndchoplaa", sum := "ccded9b6a98bf19430cf1ad5709c538e97365e73e7c74b67b54f956e297939fd", func := "loop.example/memorymanagers/laws.FnExactMarkBounded", spec := "fnExactMarkBounded", apart := false }
def FnExactMarkBoundedSaid : Prop := fnExactMarkBoundedRow.holds Try.pinned (OpenSpec.ofChange fnExactMarkBoundedSpec)

/-- ITS FALSE NEIGHBOUR: 'it returns false'. Refute it at one input. -/
def fnExactMarkBoundedWrong : ChangeSpec := { name := "fnExactMarkBounded", fn := fun _ => fun
  | [d1, d2] => { results := [.lit (.bool false)], args := [d1, d2] }
  | _ => none }
def FnExactMarkBoundedWrongFalsely : Prop := fnExactMarkBoundedRow.holds Try.pinned (OpenSpec.ofChange fnExactMarkBoundedWrong)

/-- 'laws.FnExactSweepCells': WHATEVER THE INPUT: true; the input reads as it did. -/
def fnExactSweepCellsSpec : ChangeSpec := { name := "fnExactSweepCells", fn := fun _ => fun
  | [d1, d2] => { results := [.lit (.bool true)], args := [d1, d2] }
  | _ => none }
def fnExactSweepCellsRow : OpenClaim := { program := "ytjmfdmndchoplaa", sum := "ccded9b6a98bf19430cf1ad5709c538e97365e73e7c74b67b54f956e297939fd", func := "loop.example/memorymanagers/laws.FnExactSweepCells", spec := "fnExactSweepCells", apart := false }
def FnExactSweepCellsSaid : Prop := fnExactSweepCellsRow.holds Try.pinned (OpenSpec.ofChange fnExactSweepCellsSpec)

/-- ITS FALSE NEIGHBOUR: 'it returns false'. Refute it at one input. -/
def fnExactSweepCellsWrong : ChangeSpec := { name := "fnExactSweepCells", fn := fun _ => fun
  | [d1, d2] => { results := [.lit (.bool false)], args := [d1, d2] }
  | _ => none }
def FnExactSweepCellsWrongFalsely : Prop := fnExactSweepCellsRow.holds Try.pinned (OpenSpec.ofChange fnExactSweepCellsWrong)

/-- 'laws.FnExactDeadCycle': WHATEVER THE INPUT: true; the input reads as it did. -/
def fnExactDeadCycleSpec : ChangeSpec := { name := "fnExactDeadCycle", fn := fun _ => fun
  | [d1, d2] => { results := [.lit (.bool true)], args := [d1, d2] }
  | _ => none }
def fnExactDeadCycleRow : OpenClaim := { program := "ytjmfdmndchoplaa", sum := "ccded9b6a98bf19430cf1ad5709c538e97365e73e7c74b67b54f956e297939fd", func := "loop.example/memorymanagers/laws.FnExactDeadCycle", spec := "fnExactDeadCycle", unfollowed := true, recurses := true, apart := false }
def FnExactDeadCycleSaid : Prop := fnExactDeadCycleRow.holds Try.pinned (OpenSpec.ofChange fnExactDeadCycleSpec)

/-- ITS FALSE NEIGHBOUR: 'it returns false'. Refute it at one input. -/
def fnExactDeadCycleWrong : ChangeSpec := { name := "fnExactDeadCycle", fn := fun _ => fun
  | [d1, d2] => { results := [.lit (.bool false)], args := [d1, d2] }
  | _ => none }
def FnExactDeadCycleWrongFalsely : Prop := fnExactDeadCycleRow.holds Try.pinned (OpenSpec.ofChange fnExactDeadCycleWrong)

/-- 'laws.FnExactLazyStart': WHATEVER THE INPUT: true; the input reads as it did. -/
def fnExactLazyStartSpec : ChangeSpec := { name := "fnExactLazyStart", fn := fun _ => fun
  | [d] => { results := [.lit (.bool true)], args := [d] }
  | _ => none }
def fnExactLazyStartRow : OpenClaim := { program := "ytjmfdmndchoplaa", sum := "ccded9b6a98bf19430cf1ad5709c538e97365e73e7c74b67b54f956e297939fd", func := "loop.example/memorymanagers/laws.FnExactLazyStart", spec := "fnExactLazyStart", unfollowed := true, recurses := true, apart := false }
def FnExactLazyStartSaid : Prop := fnExactLazyStartRow.holds Try.pinned (OpenSpec.ofChange fnExactLazyStartSpec)

/-- ITS FALSE NEIGHBOUR: 'it returns false'. Refute it at one input. -/
def fnExactLazyStartWrong : ChangeSpec := { name := "fnExactLazyStart", fn := fun _ => fun
  | [d] => { results := [.lit (.bool false)], args := [d] }
  | _ => none }
def FnExactLazyStartWrongFalsely : Prop := fnExactLazyStartRow.holds Try.pinned (OpenSpec.ofChange fnExactLazyStartWrong)

/-- 'laws.FnExactCollectSweep': WHATEVER THE INPUT: true; the input reads as it did. -/
def fnExactCollectSweepSpec : ChangeSpec := { name := "fnExactCollectSweep", fn := fun _ => fun
  | [d] => { results := [.lit (.bool true)], args := [d] }
  | _ => none }
def fnExactCollectSweepRow : OpenClaim := { program := "ytjmfdmndchoplaa", sum := "ccded9b6a98bf19430cf1ad5709c538e97365e73e7c74b67b54f956e297939fd", func := "loop.example/memorymanagers/laws.FnExactCollectSweep", spec := "fnExactCollectSweep", unfollowed := true, recurses := true, apart := false }
def FnExactCollectSweepSaid : Prop := fnExactCollectSweepRow.holds Try.pinned (OpenSpec.ofChange fnExactCollectSweepSpec)

/-- ITS FALSE NEIGHBOUR: 'it returns false'. Refute it at one input. -/
def fnExactCollectSweepWrong : ChangeSpec := { name := "fnExactCollectSweep", fn := fun _ => fun
  | [d] => { results := [.lit (.bool false)], args := [d] }
  | _ => none }
def FnExactCollectSweepWrongFalsely : Prop := fnExactCollectSweepRow.holds Try.pinned (OpenSpec.ofChange fnExactCollectSweepWrong)

/-- 'laws.FnExactCollectCycles': WHATEVER THE INPUT: true; the input reads as it did. -/
def fnExactCollectCyclesSpec : ChangeSpec := { name := "fnExactCollectCycles", fn := fun _ => fun
  | [d] => { results := [.lit (.bool true)], args := [d] }
  | _ => none }
def fnExactCollectCyclesRow : OpenClaim := { program := "ytjmfdmndchoplaa", sum := "ccded9b6a98bf19430cf1ad5709c538e97365e73e7c74b67b54f956e297939fd", func := "loop.example/memorymanagers/laws.FnExactCollectCycles", spec := "fnExactCollectCycles", unfollowed := true, recurses := true, apart := false }
def FnExactCollectCyclesSaid : Prop := fnExactCollectCyclesRow.holds Try.pinned (OpenSpec.ofChange fnExactCollectCyclesSpec)

/-- ITS FALSE NEIGHBOUR: 'it returns false'. Refute it at one input. -/
def fnExactCollectCyclesWrong : ChangeSpec := { name := "fnExactCollectCycles", fn := fun _ => fun
  | [d] => { results := [.lit (.bool false)], args := [d] }
  | _ => none }
def FnExactCollectCyclesWrongFalsely : Prop := fnExactCollectCyclesRow.holds Try.pinned (OpenSpec.ofChange fnExactCollectCyclesWrong)

/- THE SECOND FORM. 'bulk': how many values and letters a reading holds, each counted each time it is reached (what is shared counts as often as it is met; a slice's spare places count too). A statement '..UptoSaid' is the law's where the arguments, and the package variables that the reading takes, are together of bulk at most 1048576: NARROWER than '..Said'. Prove '..Said' where nothing that the law and all that it calls make is longer than what came in: it says more and counts as full. Else prove '..UptoSaid'. A law counts once. -/
mutual
def uptoBulk {H : Type} : DataW H → Nat
  | .lit (.string bytes) => bytes.length + 1
  | .lit _ => 1
  | .nil => 1
  | .ptr d => uptoBulk d + 1
  | .slice elems spare => uptoBulkAll elems + uptoBulkAll spare + 1
  | .agg parts => uptoBulkAll parts + 1
  | .iface _ d => uptoBulk d + 1
  | .map entries => uptoBulkEntries entries + 1
  | .held _ => 1
def uptoBulkAll {H : Type} : List (DataW H) → Nat
  | [] => 0
  | d :: r => uptoBulk d + uptoBulkAll r
def uptoBulkEntries {H : Type} : List (Lit × DataW H) → Nat
  | [] => 0
  | x :: r => uptoBulkEntry x + uptoBulkEntries r
def uptoBulkEntry {H : Type} : Lit × DataW H → Nat
  | (.string bytes, d) => bytes.length + uptoBulk d + 1
  | (_, d) => uptoBulk d + 1
 end
def uptoSmall : (H : Type) → List (DataW H) → Bool := fun _ ds => decide (uptoBulkAll ds ≤ 1048576)
def OpenSpec.upto (s : _root_.Go.ChangeSpec) : _root_.Go.OpenSpec := { _root_.Go.OpenSpec.ofChange s with cond := some uptoSmall }

/-- 'laws.FnExactHeapOf', WHERE WHAT IT READS IS OF BULK AT MOST 1048576: true; the input reads as it did. -/
def fnExactHeapOfUptoRow : OpenClaim := { program := "ytjmfdmndchoplaa", sum := "ccded9b6a98bf19430cf1ad5709c538e97365e73e7c74b67b54f956e297939fd", func := "loop.example/memorymanagers/laws.FnExactHeapOf", spec := "fnExactHeapOf", unfollowed := true, recurses := true, apart := false, narrowed := true }
def FnExactHeapOfUptoSaid : Prop := fnExactHeapOfUptoRow.holds Try.pinned (OpenSpec.upto fnExactHeapOfSpec)

/-- 'laws.FnExactMarkBounded', WHERE WHAT IT READS IS OF BULK AT MOST 1048576: true; the input reads as it did. -/
def fnExactMarkBoundedUptoRow : OpenClaim := { program := "ytjmfdmndchoplaa", sum := "ccded9b6a98bf19430cf1ad5709c538e97365e73e7c74b67b54f956e297939fd", func := "loop.example/memorymanagers/laws.FnExactMarkBounded", spec := "fnExactMarkBounded", apart := false, narrowed := true }
def FnExactMarkBoundedUptoSaid : Prop := fnExactMarkBoundedUptoRow.holds Try.pinned (OpenSpec.upto fnExactMarkBoundedSpec)

/-- 'laws.FnExactSweepCells', WHERE WHAT IT READS IS OF BULK AT MOST 1048576: true; the input reads as it did. -/
def fnExactSweepCellsUptoRow : OpenClaim := { program := "ytjmfdmndchoplaa", sum := "ccded9b6a98bf19430cf1ad5709c538e97365e73e7c74b67b54f956e297939fd", func := "loop.example/memorymanagers/laws.FnExactSweepCells", spec := "fnExactSweepCells", apart := false, narrowed := true }
def FnExactSweepCellsUptoSaid : Prop := fnExactSweepCellsUptoRow.holds Try.pinned (OpenSpec.upto fnExactSweepCellsSpec)

/-- 'laws.FnExactDeadCycle', WHERE WHAT IT READS IS OF BULK AT MOST 1048576: true; the input reads as it did. -/
def fnExactDeadCycleUptoRow : OpenClaim := { program := "ytjmfdmndchoplaa", sum := "ccded9b6a98bf19430cf1ad5709c538e97365e73e7c74b67b54f956e297939fd", func := "loop.example/memorymanagers/laws.FnExactDeadCycle", spec := "fnExactDeadCycle", unfollowed := true, recurses := true, apart := false, narrowed := true }
def FnExactDeadCycleUptoSaid : Prop := fnExactDeadCycleUptoRow.holds Try.pinned (OpenSpec.upto fnExactDeadCycleSpec)

/-- 'laws.FnExactLazyStart', WHERE WHAT IT READS IS OF BULK AT MOST 1048576: true; the input reads as it did. -/
def fnExactLazyStartUptoRow : OpenClaim := { program := "ytjmfdmndchoplaa", sum := "ccded9b6a98bf19430cf1ad5709c538e97365e73e7c74b67b54f956e297939fd", func := "loop.example/memorymanagers/laws.FnExactLazyStart", spec := "fnExactLazyStart", unfollowed := true, recurses := true, apart := false, narrowed := true }
def FnExactLazyStartUptoSaid : Prop := fnExactLazyStartUptoRow.holds Try.pinned (OpenSpec.upto fnExactLazyStartSpec)

/-- 'laws.FnExactCollectSweep', WHERE WHAT IT READS IS OF BULK AT MOST 1048576: true; the input reads as it did. -/
def fnExactCollectSweepUptoRow : OpenClaim := { program := "ytjmfdmndchoplaa", sum := "ccded9b6a98bf19430cf1ad5709c538e97365e73e7c74b67b54f956e297939fd", func := "loop.example/memorymanagers/laws.FnExactCollectSweep", spec := "fnExactCollectSweep", unfollowed := true, recurses := true, apart := false, narrowed := true }
def FnExactCollectSweepUptoSaid : Prop := fnExactCollectSweepUptoRow.holds Try.pinned (OpenSpec.upto fnExactCollectSweepSpec)

/-- 'laws.FnExactCollectCycles', WHERE WHAT IT READS IS OF BULK AT MOST 1048576: true; the input reads as it did. -/
def fnExactCollectCyclesUptoRow : OpenClaim := { program := "ytjmfdmndchoplaa", sum := "ccded9b6a98bf19430cf1ad5709c538e97365e73e7c74b67b54f956e297939fd", func := "loop.example/memorymanagers/laws.FnExactCollectCycles", spec := "fnExactCollectCycles", unfollowed := true, recurses := true, apart := false, narrowed := true }
def FnExactCollectCyclesUptoSaid : Prop := fnExactCollectCyclesUptoRow.holds Try.pinned (OpenSpec.upto fnExactCollectCyclesSpec)

end Rows
end Go.Proofs.Ytjmfdmndchoplaa
