/-
  No cell of these rows narrows 'for every input' (looked for: loops, veiled, ifaces, maps, wideKeys, modest, calm, conditions, laid).
  DERIVED. THE GIVEN ROWS OF THIS SEAT. 2 by the template 'for every input the law returns true; each argument reads behind the call as it read before'; 0 by the template 'total and deterministic' (their statements: YtdlmjmcddafojaaTotals.lean).
  GIVEN WITH THE SEED: the statements are not yours to turn. If you find one false, say at which input.
  Laid BY PROGRAM, IN A SANDBOX (cutbox-rows.mjs): the forced cells as the released guide's own fill.sh prints them over the translation 370be0e318873c34… (all of the seat's roots in one cut). By AI agents, Wed Nov 11 2026. No macro, syntax, notation, axiom, sorry.
-/
import Derived.Test.YtdlmjmcddafojaaChecked
import GoSem.Claim
import GoSem.ClaimJoined
import GoSem.ClaimMapViews
import Derived.JoinedTies
import Derived.KernelRfl
namespace Go.Proofs.Ytdlmjmcddafojaa
/- THE CELL 'sum', in the pinned program and in every row, IS THE sha256 OF THE DUMP (.gsa) THAT YtdlmjmcddafojaaProg.lean LOADS. Nothing in Lean hashes anything: it is a label: what it is worth is what the hold of that sum in a sandbox is worth. -/
noncomputable def Try.pinned : Pinned := { name := "ytdlmjmcddafojaa", sum := "370be0e318873c342513a1563d7549e3b4edb78fbbbec47b50cb620eff0dcee3", checked := Try.checked }
namespace Rows
def none {H : Type} : Left H := { results := [], args := [] }

/-- 'laws.FnCollectCycles': WHATEVER THE INPUT: true; the input reads as it did. -/
def fnCollectCyclesSpec : ChangeSpec := { name := "fnCollectCycles", fn := fun _ => fun
  | [d] => { results := [.lit (.bool true)], args := [d] }
  | _ => none }
def fnCollectCyclesRow : OpenClaim := { program := "ytdlmjmcddafojaa", sum := "370be0e318873c342513a1563d7549e3b4edb78fbbbec47b50cb620eff0dcee3", func := "loop.example/memorymanagers/laws.FnCollectCycles", spec := "fnCollectCycles", unfollowed := true, recurses := true, apart := false }
def FnCollectCyclesSaid : Prop := fnCollectCyclesRow.holds Try.pinned (OpenSpec.ofChange fnCollectCyclesSpec)

/-- ITS FALSE NEIGHBOUR: 'it returns false'. Refute it at one input. -/
def fnCollectCyclesWrong : ChangeSpec := { name := "fnCollectCycles", fn := fun _ => fun
  | [d] => { results := [.lit (.bool false)], args := [d] }
  | _ => none }
def FnCollectCyclesWrongFalsely : Prop := fnCollectCyclesRow.holds Try.pinned (OpenSpec.ofChange fnCollectCyclesWrong)

/-- 'laws.FnLazyValid': WHATEVER THE INPUT: true; the input reads as it did. -/
def fnLazyValidSpec : ChangeSpec := { name := "fnLazyValid", fn := fun _ => fun
  | [d] => { results := [.lit (.bool true)], args := [d] }
  | _ => none }
def fnLazyValidRow : OpenClaim := { program := "ytdlmjmcddafojaa", sum := "370be0e318873c342513a1563d7549e3b4edb78fbbbec47b50cb620eff0dcee3", func := "loop.example/memorymanagers/laws.FnLazyValid", spec := "fnLazyValid", unfollowed := true, recurses := true, apart := false }
def FnLazyValidSaid : Prop := fnLazyValidRow.holds Try.pinned (OpenSpec.ofChange fnLazyValidSpec)

/-- ITS FALSE NEIGHBOUR: 'it returns false'. Refute it at one input. -/
def fnLazyValidWrong : ChangeSpec := { name := "fnLazyValid", fn := fun _ => fun
  | [d] => { results := [.lit (.bool false)], args := [d] }
  | _ => none }
def FnLazyValidWrongFalsely : Prop := fnLazyValidRow.holds Try.pinned (OpenSpec.ofChange fnLazyValidWrong)

/- THE SECOND FORM. 'bulk': how many values and letters a reading holds, each counted each time it is reached (what is shared counts as often as it is met; a slice's spare places count too). A statement '..UptoSaid' is the law's where the arguments, and the package variables that the reading takes, are together of bulk at most 1048576: NARROWER than '..Said'. Prove '..Said' where nothing that the law and all that it calls make is longer than what came in: it says more and counts as full. Else prove '..UptoSaid'. A law counts once. -/
mutual
def uptoBulk {H : Type} : DataW H → Nat
  | .lit (.string bytes) => bytes.length + 1
  | .lit _ => 1
  | .nil => 1
  | .ptr d => uptoBulk d + 1
  | .slice elems spare => uptoBulkAll elems + uptoBulkAll spare + 1
  | .agg parts => uptoBulkAll parts + 1
  | .iface _ d => uptoBulk d + 1
  | .map entries => uptoBulkEntries entries + 1
  | .held _ => 1
def uptoBulkAll {H : Type} : List (DataW H) → Nat
  | [] => 0
  | d :: r => uptoBulk d + uptoBulkAll r
def uptoBulkEntries {H : Type} : List (Lit × DataW H) → Nat
  | [] => 0
  | x :: r => uptoBulkEntry x + uptoBulkEntries r
def uptoBulkEntry {H : Type} : Lit × DataW H → Nat
  | (.string bytes, d) => bytes.length + uptoBulk d + 1
  | (_, d) => uptoBulk d + 1
 end
def uptoSmall : (H : Type) → List (DataW H) → Bool := fun _ ds => decide (uptoBulkAll ds ≤ 1048576)
def OpenSpec.upto (s : _root_.Go.ChangeSpec) : _root_.Go.OpenSpec := { _root_.Go.OpenSpec.ofChange s with cond := some uptoSmall }

/-- 'laws.FnCollectCycles', WHERE WHAT IT READS IS OF BULK AT MOST 1048576: true; the input reads as it did. -/
def fnCollectCyclesUptoRow : OpenClaim := { program := "ytdlmjmcddafojaa", sum := "370be0e318873c342513a1563d7549e3b4edb78fbbbec47b50cb620eff0dcee3", func := "loop.example/memorymanagers/laws.FnCollectCycles", spec := "fnCollectCycles", unfollowed := true, recurses := true, apart := false, narrowed := true }
def FnCollectCyclesUptoSaid : Prop := fnCollectCyclesUptoRow.holds Try.pinned (OpenSpec.upto fnCollectCyclesSpec)

/-- 'laws.FnLazyValid', WHERE WHAT IT READS IS OF BULK AT MOST 1048576: true; the input reads as it did. -/
def fnLazyValidUptoRow : OpenClaim := { program := "ytdlmjmcddafojaa", sum := "370be0e318873c342513a1563d7549e3b4edb78fbbbec47b50cb620eff0dcee3", func := "loop.example/memorymanagers/laws.FnLazyValid", spec := "fnLazyValid", unfollowed := true, recurses := true, apart := false, narrowed := true }
def FnLazyValidUptoSaid : Prop := fnLazyValidUptoRow.holds Try.pinned (OpenSpec.upto fnLazyValidSpec)

end Rows
end Go.Proofs.Ytdlmjmcddafojaa
