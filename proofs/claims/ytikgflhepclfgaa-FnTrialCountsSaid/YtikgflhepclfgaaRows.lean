/-
  No cell of these rows narrows 'for every input' (looked for: loops, veiled, ifaces, maps, wideKeys, modest, calm, conditions, laid).
  DERIVED. THE GIVEN ROWS OF THIS SEAT. 12 by the template 'for every input the law returns true; each argument reads behind the call as it read before'; 0 by the template 'total and deterministic' (their statements: YtikgflhepclfgaaTotals.lean).
  GIVEN WITH THE SEED: the statements are not yours to turn. If you find one false, say at which input.
  Laid BY PROGRAM, IN A SANDBOX (cutbox-rows.mjs): the forced cells as the released guide's own fill.sh prints them over the translation 396a65bd72f3420a… (all of the seat's roots in one cut). By AI agents, Wed Nov 11 2026. No macro, syntax, notation, axiom, sorry.
-/
import Derived.Test.YtikgflhepclfgaaChecked
import GoSem.Claim
import GoSem.ClaimJoined
import GoSem.ClaimMapViews
import Derived.JoinedTies
import Derived.KernelRfl
namespace Go.Proofs.Ytikgflhepclfgaa
/- THE CELL 'sum', in the pinned program and in every row, IS THE sha256 OF THE DUMP (.gsa) THAT YtikgflhepclfgaaProg.lean LOADS. Nothing in Lean hashes anything: it is a label: what it is worth is what the hold of that sum in a sandbox is worth. -/
noncomputable def Try.pinned : Pinned := { name := "ytikgflhepclfgaa", sum := "396a65bd72f3420a4ee18fbe97bb05b19755d3c07c1389f6d3c837d73536c8a0", checked := Try.checked }
namespace Rows
def none {H : Type} : Left H := { results := [], args := [] }

/-- 'laws.FnCommandValid': WHATEVER THE INPUT: true; the input reads as it did. -/
def fnCommandValidSpec : ChangeSpec := { name := "fnCommandValid", fn := fun _ => fun
  | [d] => { results := [.lit (.bool true)], args := [d] }
  | _ => none }
def fnCommandValidRow : OpenClaim := { program := "ytikgflhepclfgaa", sum := "396a65bd72f3420a4ee18fbe97bb05b19755d3c07c1389f6d3c837d73536c8a0", func := "loop.example/memorymanagers/laws.FnCommandValid", spec := "fnCommandValid", apart := false }
def FnCommandValidSaid : Prop := fnCommandValidRow.holds Try.pinned (OpenSpec.ofChange fnCommandValidSpec)

/-- ITS FALSE NEIGHBOUR: 'it returns false'. Refute it at one input. -/
def fnCommandValidWrong : ChangeSpec := { name := "fnCommandValid", fn := fun _ => fun
  | [d] => { results := [.lit (.bool false)], args := [d] }
  | _ => none }
def FnCommandValidWrongFalsely : Prop := fnCommandValidRow.holds Try.pinned (OpenSpec.ofChange fnCommandValidWrong)

/-- 'laws.FnCommandsValid': WHATEVER THE INPUT: true; the input reads as it did. -/
def fnCommandsValidSpec : ChangeSpec := { name := "fnCommandsValid", fn := fun _ => fun
  | [d] => { results := [.lit (.bool true)], args := [d] }
  | _ => none }
def fnCommandsValidRow : OpenClaim := { program := "ytikgflhepclfgaa", sum := "396a65bd72f3420a4ee18fbe97bb05b19755d3c07c1389f6d3c837d73536c8a0", func := "loop.example/memorymanagers/laws.FnCommandsValid", spec := "fnCommandsValid", apart := false }
def FnCommandsValidSaid : Prop := fnCommandsValidRow.holds Try.pinned (OpenSpec.ofChange fnCommandsValidSpec)

/-- ITS FALSE NEIGHBOUR: 'it returns false'. Refute it at one input. -/
def fnCommandsValidWrong : ChangeSpec := { name := "fnCommandsValid", fn := fun _ => fun
  | [d] => { results := [.lit (.bool false)], args := [d] }
  | _ => none }
def FnCommandsValidWrongFalsely : Prop := fnCommandsValidRow.holds Try.pinned (OpenSpec.ofChange fnCommandsValidWrong)

/-- 'laws.FnFreePlace': WHATEVER THE INPUT: true; the input reads as it did. -/
def fnFreePlaceSpec : ChangeSpec := { name := "fnFreePlace", fn := fun _ => fun
  | [d] => { results := [.lit (.bool true)], args := [d] }
  | _ => none }
def fnFreePlaceRow : OpenClaim := { program := "ytikgflhepclfgaa", sum := "396a65bd72f3420a4ee18fbe97bb05b19755d3c07c1389f6d3c837d73536c8a0", func := "loop.example/memorymanagers/laws.FnFreePlace", spec := "fnFreePlace", apart := false }
def FnFreePlaceSaid : Prop := fnFreePlaceRow.holds Try.pinned (OpenSpec.ofChange fnFreePlaceSpec)

/-- ITS FALSE NEIGHBOUR: 'it returns false'. Refute it at one input. -/
def fnFreePlaceWrong : ChangeSpec := { name := "fnFreePlace", fn := fun _ => fun
  | [d] => { results := [.lit (.bool false)], args := [d] }
  | _ => none }
def FnFreePlaceWrongFalsely : Prop := fnFreePlaceRow.holds Try.pinned (OpenSpec.ofChange fnFreePlaceWrong)

/-- 'laws.FnUsedCells': WHATEVER THE INPUT: true; the input reads as it did. -/
def fnUsedCellsSpec : ChangeSpec := { name := "fnUsedCells", fn := fun _ => fun
  | [d] => { results := [.lit (.bool true)], args := [d] }
  | _ => none }
def fnUsedCellsRow : OpenClaim := { program := "ytikgflhepclfgaa", sum := "396a65bd72f3420a4ee18fbe97bb05b19755d3c07c1389f6d3c837d73536c8a0", func := "loop.example/memorymanagers/laws.FnUsedCells", spec := "fnUsedCells", unfollowed := true, recurses := true, apart := false }
def FnUsedCellsSaid : Prop := fnUsedCellsRow.holds Try.pinned (OpenSpec.ofChange fnUsedCellsSpec)

/-- ITS FALSE NEIGHBOUR: 'it returns false'. Refute it at one input. -/
def fnUsedCellsWrong : ChangeSpec := { name := "fnUsedCells", fn := fun _ => fun
  | [d] => { results := [.lit (.bool false)], args := [d] }
  | _ => none }
def FnUsedCellsWrongFalsely : Prop := fnUsedCellsRow.holds Try.pinned (OpenSpec.ofChange fnUsedCellsWrong)

/-- 'laws.FnReachable': WHATEVER THE INPUT: true; the input reads as it did. -/
def fnReachableSpec : ChangeSpec := { name := "fnReachable", fn := fun _ => fun
  | [d] => { results := [.lit (.bool true)], args := [d] }
  | _ => none }
def fnReachableRow : OpenClaim := { program := "ytikgflhepclfgaa", sum := "396a65bd72f3420a4ee18fbe97bb05b19755d3c07c1389f6d3c837d73536c8a0", func := "loop.example/memorymanagers/laws.FnReachable", spec := "fnReachable", unfollowed := true, recurses := true, apart := false }
def FnReachableSaid : Prop := fnReachableRow.holds Try.pinned (OpenSpec.ofChange fnReachableSpec)

/-- ITS FALSE NEIGHBOUR: 'it returns false'. Refute it at one input. -/
def fnReachableWrong : ChangeSpec := { name := "fnReachable", fn := fun _ => fun
  | [d] => { results := [.lit (.bool false)], args := [d] }
  | _ => none }
def FnReachableWrongFalsely : Prop := fnReachableRow.holds Try.pinned (OpenSpec.ofChange fnReachableWrong)

/-- 'laws.FnMetOrder': WHATEVER THE INPUT: true; the input reads as it did. -/
def fnMetOrderSpec : ChangeSpec := { name := "fnMetOrder", fn := fun _ => fun
  | [d] => { results := [.lit (.bool true)], args := [d] }
  | _ => none }
def fnMetOrderRow : OpenClaim := { program := "ytikgflhepclfgaa", sum := "396a65bd72f3420a4ee18fbe97bb05b19755d3c07c1389f6d3c837d73536c8a0", func := "loop.example/memorymanagers/laws.FnMetOrder", spec := "fnMetOrder", unfollowed := true, recurses := true, apart := false }
def FnMetOrderSaid : Prop := fnMetOrderRow.holds Try.pinned (OpenSpec.ofChange fnMetOrderSpec)

/-- ITS FALSE NEIGHBOUR: 'it returns false'. Refute it at one input. -/
def fnMetOrderWrong : ChangeSpec := { name := "fnMetOrder", fn := fun _ => fun
  | [d] => { results := [.lit (.bool false)], args := [d] }
  | _ => none }
def FnMetOrderWrongFalsely : Prop := fnMetOrderRow.holds Try.pinned (OpenSpec.ofChange fnMetOrderWrong)

/-- 'laws.FnMarkSame': WHATEVER THE INPUT: true; the input reads as it did. -/
def fnMarkSameSpec : ChangeSpec := { name := "fnMarkSame", fn := fun _ => fun
  | [d] => { results := [.lit (.bool true)], args := [d] }
  | _ => none }
def fnMarkSameRow : OpenClaim := { program := "ytikgflhepclfgaa", sum := "396a65bd72f3420a4ee18fbe97bb05b19755d3c07c1389f6d3c837d73536c8a0", func := "loop.example/memorymanagers/laws.FnMarkSame", spec := "fnMarkSame", unfollowed := true, recurses := true, apart := false }
def FnMarkSameSaid : Prop := fnMarkSameRow.holds Try.pinned (OpenSpec.ofChange fnMarkSameSpec)

/-- ITS FALSE NEIGHBOUR: 'it returns false'. Refute it at one input. -/
def fnMarkSameWrong : ChangeSpec := { name := "fnMarkSame", fn := fun _ => fun
  | [d] => { results := [.lit (.bool false)], args := [d] }
  | _ => none }
def FnMarkSameWrongFalsely : Prop := fnMarkSameRow.holds Try.pinned (OpenSpec.ofChange fnMarkSameWrong)

/-- 'laws.FnRefCounts': WHATEVER THE INPUT: true; the input reads as it did. -/
def fnRefCountsSpec : ChangeSpec := { name := "fnRefCounts", fn := fun _ => fun
  | [d] => { results := [.lit (.bool true)], args := [d] }
  | _ => none }
def fnRefCountsRow : OpenClaim := { program := "ytikgflhepclfgaa", sum := "396a65bd72f3420a4ee18fbe97bb05b19755d3c07c1389f6d3c837d73536c8a0", func := "loop.example/memorymanagers/laws.FnRefCounts", spec := "fnRefCounts", unfollowed := true, recurses := true, apart := false }
def FnRefCountsSaid : Prop := fnRefCountsRow.holds Try.pinned (OpenSpec.ofChange fnRefCountsSpec)

/-- ITS FALSE NEIGHBOUR: 'it returns false'. Refute it at one input. -/
def fnRefCountsWrong : ChangeSpec := { name := "fnRefCounts", fn := fun _ => fun
  | [d] => { results := [.lit (.bool false)], args := [d] }
  | _ => none }
def FnRefCountsWrongFalsely : Prop := fnRefCountsRow.holds Try.pinned (OpenSpec.ofChange fnRefCountsWrong)

/-- 'laws.FnViewOf': WHATEVER THE INPUT: true; the input reads as it did. -/
def fnViewOfSpec : ChangeSpec := { name := "fnViewOf", fn := fun _ => fun
  | [d] => { results := [.lit (.bool true)], args := [d] }
  | _ => none }
def fnViewOfRow : OpenClaim := { program := "ytikgflhepclfgaa", sum := "396a65bd72f3420a4ee18fbe97bb05b19755d3c07c1389f6d3c837d73536c8a0", func := "loop.example/memorymanagers/laws.FnViewOf", spec := "fnViewOf", unfollowed := true, recurses := true, apart := false }
def FnViewOfSaid : Prop := fnViewOfRow.holds Try.pinned (OpenSpec.ofChange fnViewOfSpec)

/-- ITS FALSE NEIGHBOUR: 'it returns false'. Refute it at one input. -/
def fnViewOfWrong : ChangeSpec := { name := "fnViewOf", fn := fun _ => fun
  | [d] => { results := [.lit (.bool false)], args := [d] }
  | _ => none }
def FnViewOfWrongFalsely : Prop := fnViewOfRow.holds Try.pinned (OpenSpec.ofChange fnViewOfWrong)

/-- 'laws.FnHeapValid': WHATEVER THE INPUT: true; the input reads as it did. -/
def fnHeapValidSpec : ChangeSpec := { name := "fnHeapValid", fn := fun _ => fun
  | [d] => { results := [.lit (.bool true)], args := [d] }
  | _ => none }
def fnHeapValidRow : OpenClaim := { program := "ytikgflhepclfgaa", sum := "396a65bd72f3420a4ee18fbe97bb05b19755d3c07c1389f6d3c837d73536c8a0", func := "loop.example/memorymanagers/laws.FnHeapValid", spec := "fnHeapValid", apart := false }
def FnHeapValidSaid : Prop := fnHeapValidRow.holds Try.pinned (OpenSpec.ofChange fnHeapValidSpec)

/-- ITS FALSE NEIGHBOUR: 'it returns false'. Refute it at one input. -/
def fnHeapValidWrong : ChangeSpec := { name := "fnHeapValid", fn := fun _ => fun
  | [d] => { results := [.lit (.bool false)], args := [d] }
  | _ => none }
def FnHeapValidWrongFalsely : Prop := fnHeapValidRow.holds Try.pinned (OpenSpec.ofChange fnHeapValidWrong)

/-- 'laws.FnCellsFrom': WHATEVER THE INPUT: true; the input reads as it did. -/
def fnCellsFromSpec : ChangeSpec := { name := "fnCellsFrom", fn := fun _ => fun
  | [d] => { results := [.lit (.bool true)], args := [d] }
  | _ => none }
def fnCellsFromRow : OpenClaim := { program := "ytikgflhepclfgaa", sum := "396a65bd72f3420a4ee18fbe97bb05b19755d3c07c1389f6d3c837d73536c8a0", func := "loop.example/memorymanagers/laws.FnCellsFrom", spec := "fnCellsFrom", unfollowed := true, recurses := true, apart := false }
def FnCellsFromSaid : Prop := fnCellsFromRow.holds Try.pinned (OpenSpec.ofChange fnCellsFromSpec)

/-- ITS FALSE NEIGHBOUR: 'it returns false'. Refute it at one input. -/
def fnCellsFromWrong : ChangeSpec := { name := "fnCellsFrom", fn := fun _ => fun
  | [d] => { results := [.lit (.bool false)], args := [d] }
  | _ => none }
def FnCellsFromWrongFalsely : Prop := fnCellsFromRow.holds Try.pinned (OpenSpec.ofChange fnCellsFromWrong)

/-- 'laws.FnTrialCounts': WHATEVER THE INPUT: true; the input reads as it did. -/
def fnTrialCountsSpec : ChangeSpec := { name := "fnTrialCounts", fn := fun _ => fun
  | [d] => { results := [.lit (.bool true)], args := [d] }
  | _ => none }
def fnTrialCountsRow : OpenClaim := { program := "ytikgflhepclfgaa", sum := "396a65bd72f3420a4ee18fbe97bb05b19755d3c07c1389f6d3c837d73536c8a0", func := "loop.example/memorymanagers/laws.FnTrialCounts", spec := "fnTrialCounts", unfollowed := true, recurses := true, apart := false }
def FnTrialCountsSaid : Prop := fnTrialCountsRow.holds Try.pinned (OpenSpec.ofChange fnTrialCountsSpec)

/-- ITS FALSE NEIGHBOUR: 'it returns false'. Refute it at one input. -/
def fnTrialCountsWrong : ChangeSpec := { name := "fnTrialCounts", fn := fun _ => fun
  | [d] => { results := [.lit (.bool false)], args := [d] }
  | _ => none }
def FnTrialCountsWrongFalsely : Prop := fnTrialCountsRow.holds Try.pinned (OpenSpec.ofChange fnTrialCountsWrong)

/- THE SECOND FORM. 'bulk': how many values and letters a reading holds, each counted each time it is reached (what is shared counts as often as it is met; a slice's spare places count too). A statement '..UptoSaid' is the law's where the arguments, and the package variables that the reading takes, are together of bulk at most 1048576: NARROWER than '..Said'. Prove '..Said' where nothing that the law and all that it calls make is longer than what came in: it says more and counts as full. Else prove '..UptoSaid'. A law counts once. -/
mutual
def uptoBulk {H : Type} : DataW H → Nat
  | .lit (.string bytes) => bytes.length + 1
  | .lit _ => 1
  | .nil => 1
  | .ptr d => uptoBulk d + 1
  | .slice elems spare => uptoBulkAll elems + uptoBulkAll spare + 1
  | .agg parts => uptoBulkAll parts + 1
  | .iface _ d => uptoBulk d + 1
  | .map entries => uptoBulkEntries entries + 1
  | .held _ => 1
def uptoBulkAll {H : Type} : List (DataW H) → Nat
  | [] => 0
  | d :: r => uptoBulk d + uptoBulkAll r
def uptoBulkEntries {H : Type} : List (Lit × DataW H) → Nat
  | [] => 0
  | x :: r => uptoBulkEntry x + uptoBulkEntries r
def uptoBulkEntry {H : Type} : Lit × DataW H → Nat
  | (.string bytes, d) => bytes.length + uptoBulk d + 1
  | (_, d) => uptoBulk d + 1
 end
def uptoSmall : (H : Type) → List (DataW H) → Bool := fun _ ds => decide (uptoBulkAll ds ≤ 1048576)
def OpenSpec.upto (s : _root_.Go.ChangeSpec) : _root_.Go.OpenSpec := { _root_.Go.OpenSpec.ofChange s with cond := some uptoSmall }

/-- 'laws.FnCommandValid', WHERE WHAT IT READS IS OF BULK AT MOST 1048576: true; the input reads as it did. -/
def fnCommandValidUptoRow : OpenClaim := { program := "ytikgflhepclfgaa", sum := "396a65bd72f3420a4ee18fbe97bb05b19755d3c07c1389f6d3c837d73536c8a0", func := "loop.example/memorymanagers/laws.FnCommandValid", spec := "fnCommandValid", apart := false, narrowed := true }
def FnCommandValidUptoSaid : Prop := fnCommandValidUptoRow.holds Try.pinned (OpenSpec.upto fnCommandValidSpec)

/-- 'laws.FnCommandsValid', WHERE WHAT IT READS IS OF BULK AT MOST 1048576: true; the input reads as it did. -/
def fnCommandsValidUptoRow : OpenClaim := { program := "ytikgflhepclfgaa", sum := "396a65bd72f3420a4ee18fbe97bb05b19755d3c07c1389f6d3c837d73536c8a0", func := "loop.example/memorymanagers/laws.FnCommandsValid", spec := "fnCommandsValid", apart := false, narrowed := true }
def FnCommandsValidUptoSaid : Prop := fnCommandsValidUptoRow.holds Try.pinned (OpenSpec.upto fnCommandsValidSpec)

/-- 'laws.FnFreePlace', WHERE WHAT IT READS IS OF BULK AT MOST 1048576: true; the input reads as it did. -/
def fnFreePlaceUptoRow : OpenClaim := { program := "ytikgflhepclfgaa", sum := "396a65bd72f3420a4ee18fbe97bb05b19755d3c07c1389f6d3c837d73536c8a0", func := "loop.example/memorymanagers/laws.FnFreePlace", spec := "fnFreePlace", apart := false, narrowed := true }
def FnFreePlaceUptoSaid : Prop := fnFreePlaceUptoRow.holds Try.pinned (OpenSpec.upto fnFreePlaceSpec)

/-- 'laws.FnUsedCells', WHERE WHAT IT READS IS OF BULK AT MOST 1048576: true; the input reads as it did. -/
def fnUsedCellsUptoRow : OpenClaim := { program := "ytikgflhepclfgaa", sum := "396a65bd72f3420a4ee18fbe97bb05b19755d3c07c1389f6d3c837d73536c8a0", func := "loop.example/memorymanagers/laws.FnUsedCells", spec := "fnUsedCells", unfollowed := true, recurses := true, apart := false, narrowed := true }
def FnUsedCellsUptoSaid : Prop := fnUsedCellsUptoRow.holds Try.pinned (OpenSpec.upto fnUsedCellsSpec)

/-- 'laws.FnReachable', WHERE WHAT IT READS IS OF BULK AT MOST 1048576: true; the input reads as it did. -/
def fnReachableUptoRow : OpenClaim := { program := "ytikgflhepclfgaa", sum := "396a65bd72f3420a4ee18fbe97bb05b19755d3c07c1389f6d3c837d73536c8a0", func := "loop.example/memorymanagers/laws.FnReachable", spec := "fnReachable", unfollowed := true, recurses := true, apart := false, narrowed := true }
def FnReachableUptoSaid : Prop := fnReachableUptoRow.holds Try.pinned (OpenSpec.upto fnReachableSpec)

/-- 'laws.FnMetOrder', WHERE WHAT IT READS IS OF BULK AT MOST 1048576: true; the input reads as it did. -/
def fnMetOrderUptoRow : OpenClaim := { program := "ytikgflhepclfgaa", sum := "396a65bd72f3420a4ee18fbe97bb05b19755d3c07c1389f6d3c837d73536c8a0", func := "loop.example/memorymanagers/laws.FnMetOrder", spec := "fnMetOrder", unfollowed := true, recurses := true, apart := false, narrowed := true }
def FnMetOrderUptoSaid : Prop := fnMetOrderUptoRow.holds Try.pinned (OpenSpec.upto fnMetOrderSpec)

/-- 'laws.FnMarkSame', WHERE WHAT IT READS IS OF BULK AT MOST 1048576: true; the input reads as it did. -/
def fnMarkSameUptoRow : OpenClaim := { program := "ytikgflhepclfgaa", sum := "396a65bd72f3420a4ee18fbe97bb05b19755d3c07c1389f6d3c837d73536c8a0", func := "loop.example/memorymanagers/laws.FnMarkSame", spec := "fnMarkSame", unfollowed := true, recurses := true, apart := false, narrowed := true }
def FnMarkSameUptoSaid : Prop := fnMarkSameUptoRow.holds Try.pinned (OpenSpec.upto fnMarkSameSpec)

/-- 'laws.FnRefCounts', WHERE WHAT IT READS IS OF BULK AT MOST 1048576: true; the input reads as it did. -/
def fnRefCountsUptoRow : OpenClaim := { program := "ytikgflhepclfgaa", sum := "396a65bd72f3420a4ee18fbe97bb05b19755d3c07c1389f6d3c837d73536c8a0", func := "loop.example/memorymanagers/laws.FnRefCounts", spec := "fnRefCounts", unfollowed := true, recurses := true, apart := false, narrowed := true }
def FnRefCountsUptoSaid : Prop := fnRefCountsUptoRow.holds Try.pinned (OpenSpec.upto fnRefCountsSpec)

/-- 'laws.FnViewOf', WHERE WHAT IT READS IS OF BULK AT MOST 1048576: true; the input reads as it did. -/
def fnViewOfUptoRow : OpenClaim := { program := "ytikgflhepclfgaa", sum := "396a65bd72f3420a4ee18fbe97bb05b19755d3c07c1389f6d3c837d73536c8a0", func := "loop.example/memorymanagers/laws.FnViewOf", spec := "fnViewOf", unfollowed := true, recurses := true, apart := false, narrowed := true }
def FnViewOfUptoSaid : Prop := fnViewOfUptoRow.holds Try.pinned (OpenSpec.upto fnViewOfSpec)

/-- 'laws.FnHeapValid', WHERE WHAT IT READS IS OF BULK AT MOST 1048576: true; the input reads as it did. -/
def fnHeapValidUptoRow : OpenClaim := { program := "ytikgflhepclfgaa", sum := "396a65bd72f3420a4ee18fbe97bb05b19755d3c07c1389f6d3c837d73536c8a0", func := "loop.example/memorymanagers/laws.FnHeapValid", spec := "fnHeapValid", apart := false, narrowed := true }
def FnHeapValidUptoSaid : Prop := fnHeapValidUptoRow.holds Try.pinned (OpenSpec.upto fnHeapValidSpec)

/-- 'laws.FnCellsFrom', WHERE WHAT IT READS IS OF BULK AT MOST 1048576: true; the input reads as it did. -/
def fnCellsFromUptoRow : OpenClaim := { program := "ytikgflhepclfgaa", sum := "396a65bd72f3420a4ee18fbe97bb05b19755d3c07c1389f6d3c837d73536c8a0", func := "loop.example/memorymanagers/laws.FnCellsFrom", spec := "fnCellsFrom", unfollowed := true, recurses := true, apart := false, narrowed := true }
def FnCellsFromUptoSaid : Prop := fnCellsFromUptoRow.holds Try.pinned (OpenSpec.upto fnCellsFromSpec)

/-- 'laws.FnTrialCounts', WHERE WHAT IT READS IS OF BULK AT MOST 1048576: true; the input reads as it did. -/
def fnTrialCountsUptoRow : OpenClaim := { program := "ytikgflhepclfgaa", sum := "396a65bd72f3420a4ee18fbe97bb05b19755d3c07c1389f6d3c837d73536c8a0", func := "loop.example/memorymanagers/laws.FnTrialCounts", spec := "fnTrialCounts", unfollowed := true, recurses := true, apart := false, narrowed := true }
def FnTrialCountsUptoSaid : Prop := fnTrialCountsUptoRow.holds Try.pinned (OpenSpec.upto fnTrialCountsSpec)

end Rows
end Go.Proofs.Ytikgflhepclfgaa
