/-
  No cell of these rows narrows 'for every input' (looked for: loops, veiled, ifaces, maps, wideKeys, modest, calm, conditions, laid).
  DERIVED. THE GIVEN ROWS OF THIS SEAT. 12 by the template 'for every input the law returns true; each argument reads behind the call as it read before'; 0 by the template 'total and deterministic' (their statements: YtdfifnplgbceaaaTotals.lean).
  GIVEN WITH THE SEED: the statements are not yours to turn. If you find one false, say at which input.
  Laid BY PROGRAM, IN A SANDBOX (cutbox-rows.mjs): the forced cells as the released guide's own fill.sh prints them over the translation cf7e0c8d258aec25… (all of the seat's roots in one cut). By AI agents, Wed Nov 11 2026. No macro, syntax, notation, axiom, sorry.
-/
import Derived.Test.YtdfifnplgbceaaaChecked
import GoSem.Claim
import GoSem.ClaimJoined
import GoSem.ClaimMapViews
import Derived.JoinedTies
import Derived.KernelRfl
namespace Go.Proofs.Ytdfifnplgbceaaa
/- THE CELL 'sum', in the pinned program and in every row, IS THE sha256 OF THE DUMP (.gsa) THAT YtdfifnplgbceaaaProg.lean LOADS. Nothing in Lean hashes anything: it is a label: what it is worth is what the hold of that sum in a sandbox is worth. -/
noncomputable def Try.pinned : Pinned := { name := "ytdfifnplgbceaaa", sum := "cf7e0c8d258aec25f53819f0426b2c16b03f02627399c4fd34dc85cb6aef696f", checked := Try.checked }
namespace Rows
def none {H : Type} : Left H := { results := [], args := [] }

/-- 'laws.FnExactMetOrder': WHATEVER THE INPUT: true; the input reads as it did. -/
def fnExactMetOrderSpec : ChangeSpec := { name := "fnExactMetOrder", fn := fun _ => fun
  | [d] => { results := [.lit (.bool true)], args := [d] }
  | _ => none }
def fnExactMetOrderRow : OpenClaim := { program := "ytdfifnplgbceaaa", sum := "cf7e0c8d258aec25f53819f0426b2c16b03f02627399c4fd34dc85cb6aef696f", func := "loop.example/memorymanagers/laws.FnExactMetOrder", spec := "fnExactMetOrder", unfollowed := true, recurses := true, apart := false }
def FnExactMetOrderSaid : Prop := fnExactMetOrderRow.holds Try.pinned (OpenSpec.ofChange fnExactMetOrderSpec)

/-- ITS FALSE NEIGHBOUR: 'it returns false'. Refute it at one input. -/
def fnExactMetOrderWrong : ChangeSpec := { name := "fnExactMetOrder", fn := fun _ => fun
  | [d] => { results := [.lit (.bool false)], args := [d] }
  | _ => none }
def FnExactMetOrderWrongFalsely : Prop := fnExactMetOrderRow.holds Try.pinned (OpenSpec.ofChange fnExactMetOrderWrong)

/-- 'laws.FnExactCommandPossible': WHATEVER THE INPUT: true; the input reads as it did. -/
def fnExactCommandPossibleSpec : ChangeSpec := { name := "fnExactCommandPossible", fn := fun _ => fun
  | [d1, d2] => { results := [.lit (.bool true)], args := [d1, d2] }
  | _ => none }
def fnExactCommandPossibleRow : OpenClaim := { program := "ytdfifnplgbceaaa", sum := "cf7e0c8d258aec25f53819f0426b2c16b03f02627399c4fd34dc85cb6aef696f", func := "loop.example/memorymanagers/laws.FnExactCommandPossible", spec := "fnExactCommandPossible", unfollowed := true, recurses := true, apart := false }
def FnExactCommandPossibleSaid : Prop := fnExactCommandPossibleRow.holds Try.pinned (OpenSpec.ofChange fnExactCommandPossibleSpec)

/-- ITS FALSE NEIGHBOUR: 'it returns false'. Refute it at one input. -/
def fnExactCommandPossibleWrong : ChangeSpec := { name := "fnExactCommandPossible", fn := fun _ => fun
  | [d1, d2] => { results := [.lit (.bool false)], args := [d1, d2] }
  | _ => none }
def FnExactCommandPossibleWrongFalsely : Prop := fnExactCommandPossibleRow.holds Try.pinned (OpenSpec.ofChange fnExactCommandPossibleWrong)

/-- 'laws.FnExactCountedValid': WHATEVER THE INPUT: true; the input reads as it did. -/
def fnExactCountedValidSpec : ChangeSpec := { name := "fnExactCountedValid", fn := fun _ => fun
  | [d] => { results := [.lit (.bool true)], args := [d] }
  | _ => none }
def fnExactCountedValidRow : OpenClaim := { program := "ytdfifnplgbceaaa", sum := "cf7e0c8d258aec25f53819f0426b2c16b03f02627399c4fd34dc85cb6aef696f", func := "loop.example/memorymanagers/laws.FnExactCountedValid", spec := "fnExactCountedValid", unfollowed := true, recurses := true, apart := false }
def FnExactCountedValidSaid : Prop := fnExactCountedValidRow.holds Try.pinned (OpenSpec.ofChange fnExactCountedValidSpec)

/-- ITS FALSE NEIGHBOUR: 'it returns false'. Refute it at one input. -/
def fnExactCountedValidWrong : ChangeSpec := { name := "fnExactCountedValid", fn := fun _ => fun
  | [d] => { results := [.lit (.bool false)], args := [d] }
  | _ => none }
def FnExactCountedValidWrongFalsely : Prop := fnExactCountedValidRow.holds Try.pinned (OpenSpec.ofChange fnExactCountedValidWrong)

/-- 'laws.FnExactUsedCells': WHATEVER THE INPUT: true; the input reads as it did. -/
def fnExactUsedCellsSpec : ChangeSpec := { name := "fnExactUsedCells", fn := fun _ => fun
  | [d] => { results := [.lit (.bool true)], args := [d] }
  | _ => none }
def fnExactUsedCellsRow : OpenClaim := { program := "ytdfifnplgbceaaa", sum := "cf7e0c8d258aec25f53819f0426b2c16b03f02627399c4fd34dc85cb6aef696f", func := "loop.example/memorymanagers/laws.FnExactUsedCells", spec := "fnExactUsedCells", unfollowed := true, recurses := true, apart := false }
def FnExactUsedCellsSaid : Prop := fnExactUsedCellsRow.holds Try.pinned (OpenSpec.ofChange fnExactUsedCellsSpec)

/-- ITS FALSE NEIGHBOUR: 'it returns false'. Refute it at one input. -/
def fnExactUsedCellsWrong : ChangeSpec := { name := "fnExactUsedCells", fn := fun _ => fun
  | [d] => { results := [.lit (.bool false)], args := [d] }
  | _ => none }
def FnExactUsedCellsWrongFalsely : Prop := fnExactUsedCellsRow.holds Try.pinned (OpenSpec.ofChange fnExactUsedCellsWrong)

/-- 'laws.FnExactCopyForward': WHATEVER THE INPUT: true; the input reads as it did. -/
def fnExactCopyForwardSpec : ChangeSpec := { name := "fnExactCopyForward", fn := fun _ => fun
  | [d] => { results := [.lit (.bool true)], args := [d] }
  | _ => none }
def fnExactCopyForwardRow : OpenClaim := { program := "ytdfifnplgbceaaa", sum := "cf7e0c8d258aec25f53819f0426b2c16b03f02627399c4fd34dc85cb6aef696f", func := "loop.example/memorymanagers/laws.FnExactCopyForward", spec := "fnExactCopyForward", unfollowed := true, recurses := true, apart := false }
def FnExactCopyForwardSaid : Prop := fnExactCopyForwardRow.holds Try.pinned (OpenSpec.ofChange fnExactCopyForwardSpec)

/-- ITS FALSE NEIGHBOUR: 'it returns false'. Refute it at one input. -/
def fnExactCopyForwardWrong : ChangeSpec := { name := "fnExactCopyForward", fn := fun _ => fun
  | [d] => { results := [.lit (.bool false)], args := [d] }
  | _ => none }
def FnExactCopyForwardWrongFalsely : Prop := fnExactCopyForwardRow.holds Try.pinned (OpenSpec.ofChange fnExactCopyForwardWrong)

/-- 'laws.FnExactLeakedCells': WHATEVER THE INPUT: true; the input reads as it did. -/
def fnExactLeakedCellsSpec : ChangeSpec := { name := "fnExactLeakedCells", fn := fun _ => fun
  | [d] => { results := [.lit (.bool true)], args := [d] }
  | _ => none }
def fnExactLeakedCellsRow : OpenClaim := { program := "ytdfifnplgbceaaa", sum := "cf7e0c8d258aec25f53819f0426b2c16b03f02627399c4fd34dc85cb6aef696f", func := "loop.example/memorymanagers/laws.FnExactLeakedCells", spec := "fnExactLeakedCells", unfollowed := true, recurses := true, apart := false }
def FnExactLeakedCellsSaid : Prop := fnExactLeakedCellsRow.holds Try.pinned (OpenSpec.ofChange fnExactLeakedCellsSpec)

/-- ITS FALSE NEIGHBOUR: 'it returns false'. Refute it at one input. -/
def fnExactLeakedCellsWrong : ChangeSpec := { name := "fnExactLeakedCells", fn := fun _ => fun
  | [d] => { results := [.lit (.bool false)], args := [d] }
  | _ => none }
def FnExactLeakedCellsWrongFalsely : Prop := fnExactLeakedCellsRow.holds Try.pinned (OpenSpec.ofChange fnExactLeakedCellsWrong)

/-- 'laws.FnExactSlideMoved': WHATEVER THE INPUT: true; the input reads as it did. -/
def fnExactSlideMovedSpec : ChangeSpec := { name := "fnExactSlideMoved", fn := fun _ => fun
  | [d] => { results := [.lit (.bool true)], args := [d] }
  | _ => none }
def fnExactSlideMovedRow : OpenClaim := { program := "ytdfifnplgbceaaa", sum := "cf7e0c8d258aec25f53819f0426b2c16b03f02627399c4fd34dc85cb6aef696f", func := "loop.example/memorymanagers/laws.FnExactSlideMoved", spec := "fnExactSlideMoved", unfollowed := true, recurses := true, apart := false }
def FnExactSlideMovedSaid : Prop := fnExactSlideMovedRow.holds Try.pinned (OpenSpec.ofChange fnExactSlideMovedSpec)

/-- ITS FALSE NEIGHBOUR: 'it returns false'. Refute it at one input. -/
def fnExactSlideMovedWrong : ChangeSpec := { name := "fnExactSlideMoved", fn := fun _ => fun
  | [d] => { results := [.lit (.bool false)], args := [d] }
  | _ => none }
def FnExactSlideMovedWrongFalsely : Prop := fnExactSlideMovedRow.holds Try.pinned (OpenSpec.ofChange fnExactSlideMovedWrong)

/-- 'laws.FnExactReachable': WHATEVER THE INPUT: true; the input reads as it did. -/
def fnExactReachableSpec : ChangeSpec := { name := "fnExactReachable", fn := fun _ => fun
  | [d] => { results := [.lit (.bool true)], args := [d] }
  | _ => none }
def fnExactReachableRow : OpenClaim := { program := "ytdfifnplgbceaaa", sum := "cf7e0c8d258aec25f53819f0426b2c16b03f02627399c4fd34dc85cb6aef696f", func := "loop.example/memorymanagers/laws.FnExactReachable", spec := "fnExactReachable", unfollowed := true, recurses := true, apart := false }
def FnExactReachableSaid : Prop := fnExactReachableRow.holds Try.pinned (OpenSpec.ofChange fnExactReachableSpec)

/-- ITS FALSE NEIGHBOUR: 'it returns false'. Refute it at one input. -/
def fnExactReachableWrong : ChangeSpec := { name := "fnExactReachable", fn := fun _ => fun
  | [d] => { results := [.lit (.bool false)], args := [d] }
  | _ => none }
def FnExactReachableWrongFalsely : Prop := fnExactReachableRow.holds Try.pinned (OpenSpec.ofChange fnExactReachableWrong)

/-- 'laws.FnExactCellsFrom': WHATEVER THE INPUT: true; the input reads as it did. -/
def fnExactCellsFromSpec : ChangeSpec := { name := "fnExactCellsFrom", fn := fun _ => fun
  | [d1, d2] => { results := [.lit (.bool true)], args := [d1, d2] }
  | _ => none }
def fnExactCellsFromRow : OpenClaim := { program := "ytdfifnplgbceaaa", sum := "cf7e0c8d258aec25f53819f0426b2c16b03f02627399c4fd34dc85cb6aef696f", func := "loop.example/memorymanagers/laws.FnExactCellsFrom", spec := "fnExactCellsFrom", unfollowed := true, recurses := true, apart := false }
def FnExactCellsFromSaid : Prop := fnExactCellsFromRow.holds Try.pinned (OpenSpec.ofChange fnExactCellsFromSpec)

/-- ITS FALSE NEIGHBOUR: 'it returns false'. Refute it at one input. -/
def fnExactCellsFromWrong : ChangeSpec := { name := "fnExactCellsFrom", fn := fun _ => fun
  | [d1, d2] => { results := [.lit (.bool false)], args := [d1, d2] }
  | _ => none }
def FnExactCellsFromWrongFalsely : Prop := fnExactCellsFromRow.holds Try.pinned (OpenSpec.ofChange fnExactCellsFromWrong)

/-- 'laws.FnExactSameView': WHATEVER THE INPUT: true; the input reads as it did. -/
def fnExactSameViewSpec : ChangeSpec := { name := "fnExactSameView", fn := fun _ => fun
  | [d1, d2] => { results := [.lit (.bool true)], args := [d1, d2] }
  | _ => none }
def fnExactSameViewRow : OpenClaim := { program := "ytdfifnplgbceaaa", sum := "cf7e0c8d258aec25f53819f0426b2c16b03f02627399c4fd34dc85cb6aef696f", func := "loop.example/memorymanagers/laws.FnExactSameView", spec := "fnExactSameView", unfollowed := true, recurses := true, apart := false }
def FnExactSameViewSaid : Prop := fnExactSameViewRow.holds Try.pinned (OpenSpec.ofChange fnExactSameViewSpec)

/-- ITS FALSE NEIGHBOUR: 'it returns false'. Refute it at one input. -/
def fnExactSameViewWrong : ChangeSpec := { name := "fnExactSameView", fn := fun _ => fun
  | [d1, d2] => { results := [.lit (.bool false)], args := [d1, d2] }
  | _ => none }
def FnExactSameViewWrongFalsely : Prop := fnExactSameViewRow.holds Try.pinned (OpenSpec.ofChange fnExactSameViewWrong)

/-- 'laws.FnExactViewOf': WHATEVER THE INPUT: true; the input reads as it did. -/
def fnExactViewOfSpec : ChangeSpec := { name := "fnExactViewOf", fn := fun _ => fun
  | [d] => { results := [.lit (.bool true)], args := [d] }
  | _ => none }
def fnExactViewOfRow : OpenClaim := { program := "ytdfifnplgbceaaa", sum := "cf7e0c8d258aec25f53819f0426b2c16b03f02627399c4fd34dc85cb6aef696f", func := "loop.example/memorymanagers/laws.FnExactViewOf", spec := "fnExactViewOf", unfollowed := true, recurses := true, apart := false }
def FnExactViewOfSaid : Prop := fnExactViewOfRow.holds Try.pinned (OpenSpec.ofChange fnExactViewOfSpec)

/-- ITS FALSE NEIGHBOUR: 'it returns false'. Refute it at one input. -/
def fnExactViewOfWrong : ChangeSpec := { name := "fnExactViewOf", fn := fun _ => fun
  | [d] => { results := [.lit (.bool false)], args := [d] }
  | _ => none }
def FnExactViewOfWrongFalsely : Prop := fnExactViewOfRow.holds Try.pinned (OpenSpec.ofChange fnExactViewOfWrong)

/-- 'laws.FnExactTrialCounts': WHATEVER THE INPUT: true; the input reads as it did. -/
def fnExactTrialCountsSpec : ChangeSpec := { name := "fnExactTrialCounts", fn := fun _ => fun
  | [d1, d2] => { results := [.lit (.bool true)], args := [d1, d2] }
  | _ => none }
def fnExactTrialCountsRow : OpenClaim := { program := "ytdfifnplgbceaaa", sum := "cf7e0c8d258aec25f53819f0426b2c16b03f02627399c4fd34dc85cb6aef696f", func := "loop.example/memorymanagers/laws.FnExactTrialCounts", spec := "fnExactTrialCounts", unfollowed := true, recurses := true, apart := false }
def FnExactTrialCountsSaid : Prop := fnExactTrialCountsRow.holds Try.pinned (OpenSpec.ofChange fnExactTrialCountsSpec)

/-- ITS FALSE NEIGHBOUR: 'it returns false'. Refute it at one input. -/
def fnExactTrialCountsWrong : ChangeSpec := { name := "fnExactTrialCounts", fn := fun _ => fun
  | [d1, d2] => { results := [.lit (.bool false)], args := [d1, d2] }
  | _ => none }
def FnExactTrialCountsWrongFalsely : Prop := fnExactTrialCountsRow.holds Try.pinned (OpenSpec.ofChange fnExactTrialCountsWrong)

/- THE SECOND FORM. 'bulk': how many values and letters a reading holds, each counted each time it is reached (what is shared counts as often as it is met; a slice's spare places count too). A statement '..UptoSaid' is the law's where the arguments, and the package variables that the reading takes, are together of bulk at most 1048576: NARROWER than '..Said'. Prove '..Said' where nothing that the law and all that it calls make is longer than what came in: it says more and counts as full. Else prove '..UptoSaid'. A law counts once. -/
mutual
def uptoBulk {H : Type} : DataW H → Nat
  | .lit (.string bytes) => bytes.length + 1
  | .lit _ => 1
  | .nil => 1
  | .ptr d => uptoBulk d + 1
  | .slice elems spare => uptoBulkAll elems + uptoBulkAll spare + 1
  | .agg parts => uptoBulkAll parts + 1
  | .iface _ d => uptoBulk d + 1
  | .map entries => uptoBulkEntries entries + 1
  | .held _ => 1
def uptoBulkAll {H : Type} : List (DataW H) → Nat
  | [] => 0
  | d :: r => uptoBulk d + uptoBulkAll r
def uptoBulkEntries {H : Type} : List (Lit × DataW H) → Nat
  | [] => 0
  | x :: r => uptoBulkEntry x + uptoBulkEntries r
def uptoBulkEntry {H : Type} : Lit × DataW H → Nat
  | (.string bytes, d) => bytes.length + uptoBulk d + 1
  | (_, d) => uptoBulk d + 1
 end
def uptoSmall : (H : Type) → List (DataW H) → Bool := fun _ ds => decide (uptoBulkAll ds ≤ 1048576)
def OpenSpec.upto (s : _root_.Go.ChangeSpec) : _root_.Go.OpenSpec := { _root_.Go.OpenSpec.ofChange s with cond := some uptoSmall }

/-- 'laws.FnExactMetOrder', WHERE WHAT IT READS IS OF BULK AT MOST 1048576: true; the input reads as it did. -/
def fnExactMetOrderUptoRow : OpenClaim := { program := "ytdfifnplgbceaaa", sum := "cf7e0c8d258aec25f53819f0426b2c16b03f02627399c4fd34dc85cb6aef696f", func := "loop.example/memorymanagers/laws.FnExactMetOrder", spec := "fnExactMetOrder", unfollowed := true, recurses := true, apart := false, narrowed := true }
def FnExactMetOrderUptoSaid : Prop := fnExactMetOrderUptoRow.holds Try.pinned (OpenSpec.upto fnExactMetOrderSpec)

/-- 'laws.FnExactCommandPossible', WHERE WHAT IT READS IS OF BULK AT MOST 1048576: true; the input reads as it did. -/
def fnExactCommandPossibleUptoRow : OpenClaim := { program := "ytdfifnplgbceaaa", sum := "cf7e0c8d258aec25f53819f0426b2c16b03f02627399c4fd34dc85cb6aef696f", func := "loop.example/memorymanagers/laws.FnExactCommandPossible", spec := "fnExactCommandPossible", unfollowed := true, recurses := true, apart := false, narrowed := true }
def FnExactCommandPossibleUptoSaid : Prop := fnExactCommandPossibleUptoRow.holds Try.pinned (OpenSpec.upto fnExactCommandPossibleSpec)

/-- 'laws.FnExactCountedValid', WHERE WHAT IT READS IS OF BULK AT MOST 1048576: true; the input reads as it did. -/
def fnExactCountedValidUptoRow : OpenClaim := { program := "ytdfifnplgbceaaa", sum := "cf7e0c8d258aec25f53819f0426b2c16b03f02627399c4fd34dc85cb6aef696f", func := "loop.example/memorymanagers/laws.FnExactCountedValid", spec := "fnExactCountedValid", unfollowed := true, recurses := true, apart := false, narrowed := true }
def FnExactCountedValidUptoSaid : Prop := fnExactCountedValidUptoRow.holds Try.pinned (OpenSpec.upto fnExactCountedValidSpec)

/-- 'laws.FnExactUsedCells', WHERE WHAT IT READS IS OF BULK AT MOST 1048576: true; the input reads as it did. -/
def fnExactUsedCellsUptoRow : OpenClaim := { program := "ytdfifnplgbceaaa", sum := "cf7e0c8d258aec25f53819f0426b2c16b03f02627399c4fd34dc85cb6aef696f", func := "loop.example/memorymanagers/laws.FnExactUsedCells", spec := "fnExactUsedCells", unfollowed := true, recurses := true, apart := false, narrowed := true }
def FnExactUsedCellsUptoSaid : Prop := fnExactUsedCellsUptoRow.holds Try.pinned (OpenSpec.upto fnExactUsedCellsSpec)

/-- 'laws.FnExactCopyForward', WHERE WHAT IT READS IS OF BULK AT MOST 1048576: true; the input reads as it did. -/
def fnExactCopyForwardUptoRow : OpenClaim := { program := "ytdfifnplgbceaaa", sum := "cf7e0c8d258aec25f53819f0426b2c16b03f02627399c4fd34dc85cb6aef696f", func := "loop.example/memorymanagers/laws.FnExactCopyForward", spec := "fnExactCopyForward", unfollowed := true, recurses := true, apart := false, narrowed := true }
def FnExactCopyForwardUptoSaid : Prop := fnExactCopyForwardUptoRow.holds Try.pinned (OpenSpec.upto fnExactCopyForwardSpec)

/-- 'laws.FnExactLeakedCells', WHERE WHAT IT READS IS OF BULK AT MOST 1048576: true; the input reads as it did. -/
def fnExactLeakedCellsUptoRow : OpenClaim := { program := "ytdfifnplgbceaaa", sum := "cf7e0c8d258aec25f53819f0426b2c16b03f02627399c4fd34dc85cb6aef696f", func := "loop.example/memorymanagers/laws.FnExactLeakedCells", spec := "fnExactLeakedCells", unfollowed := true, recurses := true, apart := false, narrowed := true }
def FnExactLeakedCellsUptoSaid : Prop := fnExactLeakedCellsUptoRow.holds Try.pinned (OpenSpec.upto fnExactLeakedCellsSpec)

/-- 'laws.FnExactSlideMoved', WHERE WHAT IT READS IS OF BULK AT MOST 1048576: true; the input reads as it did. -/
def fnExactSlideMovedUptoRow : OpenClaim := { program := "ytdfifnplgbceaaa", sum := "cf7e0c8d258aec25f53819f0426b2c16b03f02627399c4fd34dc85cb6aef696f", func := "loop.example/memorymanagers/laws.FnExactSlideMoved", spec := "fnExactSlideMoved", unfollowed := true, recurses := true, apart := false, narrowed := true }
def FnExactSlideMovedUptoSaid : Prop := fnExactSlideMovedUptoRow.holds Try.pinned (OpenSpec.upto fnExactSlideMovedSpec)

/-- 'laws.FnExactReachable', WHERE WHAT IT READS IS OF BULK AT MOST 1048576: true; the input reads as it did. -/
def fnExactReachableUptoRow : OpenClaim := { program := "ytdfifnplgbceaaa", sum := "cf7e0c8d258aec25f53819f0426b2c16b03f02627399c4fd34dc85cb6aef696f", func := "loop.example/memorymanagers/laws.FnExactReachable", spec := "fnExactReachable", unfollowed := true, recurses := true, apart := false, narrowed := true }
def FnExactReachableUptoSaid : Prop := fnExactReachableUptoRow.holds Try.pinned (OpenSpec.upto fnExactReachableSpec)

/-- 'laws.FnExactCellsFrom', WHERE WHAT IT READS IS OF BULK AT MOST 1048576: true; the input reads as it did. -/
def fnExactCellsFromUptoRow : OpenClaim := { program := "ytdfifnplgbceaaa", sum := "cf7e0c8d258aec25f53819f0426b2c16b03f02627399c4fd34dc85cb6aef696f", func := "loop.example/memorymanagers/laws.FnExactCellsFrom", spec := "fnExactCellsFrom", unfollowed := true, recurses := true, apart := false, narrowed := true }
def FnExactCellsFromUptoSaid : Prop := fnExactCellsFromUptoRow.holds Try.pinned (OpenSpec.upto fnExactCellsFromSpec)

/-- 'laws.FnExactSameView', WHERE WHAT IT READS IS OF BULK AT MOST 1048576: true; the input reads as it did. -/
def fnExactSameViewUptoRow : OpenClaim := { program := "ytdfifnplgbceaaa", sum := "cf7e0c8d258aec25f53819f0426b2c16b03f02627399c4fd34dc85cb6aef696f", func := "loop.example/memorymanagers/laws.FnExactSameView", spec := "fnExactSameView", unfollowed := true, recurses := true, apart := false, narrowed := true }
def FnExactSameViewUptoSaid : Prop := fnExactSameViewUptoRow.holds Try.pinned (OpenSpec.upto fnExactSameViewSpec)

/-- 'laws.FnExactViewOf', WHERE WHAT IT READS IS OF BULK AT MOST 1048576: true; the input reads as it did. -/
def fnExactViewOfUptoRow : OpenClaim := { program := "ytdfifnplgbceaaa", sum := "cf7e0c8d258aec25f53819f0426b2c16b03f02627399c4fd34dc85cb6aef696f", func := "loop.example/memorymanagers/laws.FnExactViewOf", spec := "fnExactViewOf", unfollowed := true, recurses := true, apart := false, narrowed := true }
def FnExactViewOfUptoSaid : Prop := fnExactViewOfUptoRow.holds Try.pinned (OpenSpec.upto fnExactViewOfSpec)

/-- 'laws.FnExactTrialCounts', WHERE WHAT IT READS IS OF BULK AT MOST 1048576: true; the input reads as it did. -/
def fnExactTrialCountsUptoRow : OpenClaim := { program := "ytdfifnplgbceaaa", sum := "cf7e0c8d258aec25f53819f0426b2c16b03f02627399c4fd34dc85cb6aef696f", func := "loop.example/memorymanagers/laws.FnExactTrialCounts", spec := "fnExactTrialCounts", unfollowed := true, recurses := true, apart := false, narrowed := true }
def FnExactTrialCountsUptoSaid : Prop := fnExactTrialCountsUptoRow.holds Try.pinned (OpenSpec.upto fnExactTrialCountsSpec)

end Rows
end Go.Proofs.Ytdfifnplgbceaaa
