/-
  No cell of these rows narrows 'for every input' (looked for: loops, veiled, ifaces, maps, wideKeys, modest, calm, conditions, laid).
  DERIVED. THE GIVEN ROWS OF THIS SEAT. 19 by the template 'for every input the law returns true; each argument reads behind the call as it read before'; 0 by the template 'total and deterministic' (their statements: YtlmmhlabacghnaaTotals.lean).
  GIVEN WITH THE SEED: the statements are not yours to turn. If you find one false, say at which input.
  Laid BY PROGRAM, IN A SANDBOX (cutbox-rows.mjs): the forced cells as the released guide's own fill.sh prints them over the translation 91894cbf93b3f0c6… (all of the seat's roots in one cut). By AI agents, Wed Nov 11 2026. No macro, syntax, notation, axiom, sorry.
-/
import Derived.Test.YtlmmhlabacghnaaChecked
import GoSem.Claim
import GoSem.ClaimJoined
import GoSem.ClaimMapViews
import Derived.JoinedTies
import Derived.KernelRfl
namespace Go.Proofs.Ytlmmhlabacghnaa
/- THE CELL 'sum', in the pinned program and in every row, IS THE sha256 OF THE DUMP (.gsa) THAT YtlmmhlabacghnaaProg.lean LOADS. Nothing in Lean hashes anything: it is a label: what it is worth is what the hold of that sum in a sandbox is worth. -/
noncomputable def Try.pinned : Pinned := { name := "ytlmmhlabacghnaa", sum := "91894cbf93b3f0c64cdc5913efe4c267e30465954aa237ffa58c2a51a550d61b", checked := Try.checked }
namespace Rows
def none {H : Type} : Left H := { results := [], args := [] }

/-- 'trestlelaw01.RunesOrder': WHATEVER THE INPUT: true; the input reads as it did. -/
def runesOrderSpec : ChangeSpec := { name := "runesOrder", fn := fun _ => fun
  | [d1, d2] => { results := [.lit (.bool true)], args := [d1, d2] }
  | _ => none }
def runesOrderRow : OpenClaim := { program := "ytlmmhlabacghnaa", sum := "91894cbf93b3f0c64cdc5913efe4c267e30465954aa237ffa58c2a51a550d61b", func := "trestle/trestlelaw01.RunesOrder", spec := "runesOrder", unfollowed := true, recurses := true, apart := false }
def RunesOrderSaid : Prop := runesOrderRow.holds Try.pinned (OpenSpec.ofChange runesOrderSpec)

/-- ITS FALSE NEIGHBOUR: 'it returns false'. Refute it at one input. -/
def runesOrderWrong : ChangeSpec := { name := "runesOrder", fn := fun _ => fun
  | [d1, d2] => { results := [.lit (.bool false)], args := [d1, d2] }
  | _ => none }
def RunesOrderWrongFalsely : Prop := runesOrderRow.holds Try.pinned (OpenSpec.ofChange runesOrderWrong)

/-- 'trestlelaw04.HashTexts': WHATEVER THE INPUT: true; the input reads as it did. -/
def hashTextsSpec : ChangeSpec := { name := "hashTexts", fn := fun _ => fun
  | [d] => { results := [.lit (.bool true)], args := [d] }
  | _ => none }
def hashTextsRow : OpenClaim := { program := "ytlmmhlabacghnaa", sum := "91894cbf93b3f0c64cdc5913efe4c267e30465954aa237ffa58c2a51a550d61b", func := "trestle/trestlelaw04.HashTexts", spec := "hashTexts", apart := false }
def HashTextsSaid : Prop := hashTextsRow.holds Try.pinned (OpenSpec.ofChange hashTextsSpec)

/-- ITS FALSE NEIGHBOUR: 'it returns false'. Refute it at one input. -/
def hashTextsWrong : ChangeSpec := { name := "hashTexts", fn := fun _ => fun
  | [d] => { results := [.lit (.bool false)], args := [d] }
  | _ => none }
def HashTextsWrongFalsely : Prop := hashTextsRow.holds Try.pinned (OpenSpec.ofChange hashTextsWrong)

/-- 'trestlelaw04.HashPlaces': WHATEVER THE INPUT: true; the input reads as it did. -/
def hashPlacesSpec : ChangeSpec := { name := "hashPlaces", fn := fun _ => fun
  | [d1, d2] => { results := [.lit (.bool true)], args := [d1, d2] }
  | _ => none }
def hashPlacesRow : OpenClaim := { program := "ytlmmhlabacghnaa", sum := "91894cbf93b3f0c64cdc5913efe4c267e30465954aa237ffa58c2a51a550d61b", func := "trestle/trestlelaw04.HashPlaces", spec := "hashPlaces", apart := false }
def HashPlacesSaid : Prop := hashPlacesRow.holds Try.pinned (OpenSpec.ofChange hashPlacesSpec)

/-- ITS FALSE NEIGHBOUR: 'it returns false'. Refute it at one input. -/
def hashPlacesWrong : ChangeSpec := { name := "hashPlaces", fn := fun _ => fun
  | [d1, d2] => { results := [.lit (.bool false)], args := [d1, d2] }
  | _ => none }
def HashPlacesWrongFalsely : Prop := hashPlacesRow.holds Try.pinned (OpenSpec.ofChange hashPlacesWrong)

/-- 'trestlelaw04.HashHalves': WHATEVER THE INPUT: true; the input reads as it did. -/
def hashHalvesSpec : ChangeSpec := { name := "hashHalves", fn := fun _ => fun
  | [d1, d2] => { results := [.lit (.bool true)], args := [d1, d2] }
  | _ => none }
def hashHalvesRow : OpenClaim := { program := "ytlmmhlabacghnaa", sum := "91894cbf93b3f0c64cdc5913efe4c267e30465954aa237ffa58c2a51a550d61b", func := "trestle/trestlelaw04.HashHalves", spec := "hashHalves", apart := false }
def HashHalvesSaid : Prop := hashHalvesRow.holds Try.pinned (OpenSpec.ofChange hashHalvesSpec)

/-- ITS FALSE NEIGHBOUR: 'it returns false'. Refute it at one input. -/
def hashHalvesWrong : ChangeSpec := { name := "hashHalves", fn := fun _ => fun
  | [d1, d2] => { results := [.lit (.bool false)], args := [d1, d2] }
  | _ => none }
def HashHalvesWrongFalsely : Prop := hashHalvesRow.holds Try.pinned (OpenSpec.ofChange hashHalvesWrong)

/-- 'trestlelaw04.HashSame': WHATEVER THE INPUT: true; the input reads as it did. -/
def hashSameSpec : ChangeSpec := { name := "hashSame", fn := fun _ => fun
  | [d1, d2] => { results := [.lit (.bool true)], args := [d1, d2] }
  | _ => none }
def hashSameRow : OpenClaim := { program := "ytlmmhlabacghnaa", sum := "91894cbf93b3f0c64cdc5913efe4c267e30465954aa237ffa58c2a51a550d61b", func := "trestle/trestlelaw04.HashSame", spec := "hashSame", apart := false }
def HashSameSaid : Prop := hashSameRow.holds Try.pinned (OpenSpec.ofChange hashSameSpec)

/-- ITS FALSE NEIGHBOUR: 'it returns false'. Refute it at one input. -/
def hashSameWrong : ChangeSpec := { name := "hashSame", fn := fun _ => fun
  | [d1, d2] => { results := [.lit (.bool false)], args := [d1, d2] }
  | _ => none }
def HashSameWrongFalsely : Prop := hashSameRow.holds Try.pinned (OpenSpec.ofChange hashSameWrong)

/-- 'trestlelaw01.RunesLines': WHATEVER THE INPUT: true; the input reads as it did. -/
def runesLinesSpec : ChangeSpec := { name := "runesLines", fn := fun _ => fun
  | [d] => { results := [.lit (.bool true)], args := [d] }
  | _ => none }
def runesLinesRow : OpenClaim := { program := "ytlmmhlabacghnaa", sum := "91894cbf93b3f0c64cdc5913efe4c267e30465954aa237ffa58c2a51a550d61b", func := "trestle/trestlelaw01.RunesLines", spec := "runesLines", unfollowed := true, recurses := true, apart := false }
def RunesLinesSaid : Prop := runesLinesRow.holds Try.pinned (OpenSpec.ofChange runesLinesSpec)

/-- ITS FALSE NEIGHBOUR: 'it returns false'. Refute it at one input. -/
def runesLinesWrong : ChangeSpec := { name := "runesLines", fn := fun _ => fun
  | [d] => { results := [.lit (.bool false)], args := [d] }
  | _ => none }
def RunesLinesWrongFalsely : Prop := runesLinesRow.holds Try.pinned (OpenSpec.ofChange runesLinesWrong)

/-- 'trestlelaw01.RunesLists': WHATEVER THE INPUT: true; the input reads as it did. -/
def runesListsSpec : ChangeSpec := { name := "runesLists", fn := fun _ => fun
  | [d] => { results := [.lit (.bool true)], args := [d] }
  | _ => none }
def runesListsRow : OpenClaim := { program := "ytlmmhlabacghnaa", sum := "91894cbf93b3f0c64cdc5913efe4c267e30465954aa237ffa58c2a51a550d61b", func := "trestle/trestlelaw01.RunesLists", spec := "runesLists", unfollowed := true, recurses := true, apart := false }
def RunesListsSaid : Prop := runesListsRow.holds Try.pinned (OpenSpec.ofChange runesListsSpec)

/-- ITS FALSE NEIGHBOUR: 'it returns false'. Refute it at one input. -/
def runesListsWrong : ChangeSpec := { name := "runesLists", fn := fun _ => fun
  | [d] => { results := [.lit (.bool false)], args := [d] }
  | _ => none }
def RunesListsWrongFalsely : Prop := runesListsRow.holds Try.pinned (OpenSpec.ofChange runesListsWrong)

/-- 'trestlelaw04.HashRows': WHATEVER THE INPUT: true; the input reads as it did. -/
def hashRowsSpec : ChangeSpec := { name := "hashRows", fn := fun _ => fun
  | [d1, d2, d3] => { results := [.lit (.bool true)], args := [d1, d2, d3] }
  | _ => none }
def hashRowsRow : OpenClaim := { program := "ytlmmhlabacghnaa", sum := "91894cbf93b3f0c64cdc5913efe4c267e30465954aa237ffa58c2a51a550d61b", func := "trestle/trestlelaw04.HashRows", spec := "hashRows", apart := false }
def HashRowsSaid : Prop := hashRowsRow.holds Try.pinned (OpenSpec.ofChange hashRowsSpec)

/-- ITS FALSE NEIGHBOUR: 'it returns false'. Refute it at one input. -/
def hashRowsWrong : ChangeSpec := { name := "hashRows", fn := fun _ => fun
  | [d1, d2, d3] => { results := [.lit (.bool false)], args := [d1, d2, d3] }
  | _ => none }
def HashRowsWrongFalsely : Prop := hashRowsRow.holds Try.pinned (OpenSpec.ofChange hashRowsWrong)

/-- 'trestlelaw04.HashSpreads': WHATEVER THE INPUT: true; the input reads as it did. -/
def hashSpreadsSpec : ChangeSpec := { name := "hashSpreads", fn := fun _ => fun
  | [d1, d2] => { results := [.lit (.bool true)], args := [d1, d2] }
  | _ => none }
def hashSpreadsRow : OpenClaim := { program := "ytlmmhlabacghnaa", sum := "91894cbf93b3f0c64cdc5913efe4c267e30465954aa237ffa58c2a51a550d61b", func := "trestle/trestlelaw04.HashSpreads", spec := "hashSpreads", apart := false }
def HashSpreadsSaid : Prop := hashSpreadsRow.holds Try.pinned (OpenSpec.ofChange hashSpreadsSpec)

/-- ITS FALSE NEIGHBOUR: 'it returns false'. Refute it at one input. -/
def hashSpreadsWrong : ChangeSpec := { name := "hashSpreads", fn := fun _ => fun
  | [d1, d2] => { results := [.lit (.bool false)], args := [d1, d2] }
  | _ => none }
def HashSpreadsWrongFalsely : Prop := hashSpreadsRow.holds Try.pinned (OpenSpec.ofChange hashSpreadsWrong)

/-- 'trestlelaw04.HashAgain': WHATEVER THE INPUT: true; the input reads as it did. -/
def hashAgainSpec : ChangeSpec := { name := "hashAgain", fn := fun _ => fun
  | [d1, d2, d3] => { results := [.lit (.bool true)], args := [d1, d2, d3] }
  | _ => none }
def hashAgainRow : OpenClaim := { program := "ytlmmhlabacghnaa", sum := "91894cbf93b3f0c64cdc5913efe4c267e30465954aa237ffa58c2a51a550d61b", func := "trestle/trestlelaw04.HashAgain", spec := "hashAgain", apart := false }
def HashAgainSaid : Prop := hashAgainRow.holds Try.pinned (OpenSpec.ofChange hashAgainSpec)

/-- ITS FALSE NEIGHBOUR: 'it returns false'. Refute it at one input. -/
def hashAgainWrong : ChangeSpec := { name := "hashAgain", fn := fun _ => fun
  | [d1, d2, d3] => { results := [.lit (.bool false)], args := [d1, d2, d3] }
  | _ => none }
def HashAgainWrongFalsely : Prop := hashAgainRow.holds Try.pinned (OpenSpec.ofChange hashAgainWrong)

/-- 'trestlelaw01.RunesJoin': WHATEVER THE INPUT: true; the input reads as it did. -/
def runesJoinSpec : ChangeSpec := { name := "runesJoin", fn := fun _ => fun
  | [d1, d2] => { results := [.lit (.bool true)], args := [d1, d2] }
  | _ => none }
def runesJoinRow : OpenClaim := { program := "ytlmmhlabacghnaa", sum := "91894cbf93b3f0c64cdc5913efe4c267e30465954aa237ffa58c2a51a550d61b", func := "trestle/trestlelaw01.RunesJoin", spec := "runesJoin", inPlace := ["internal/abi.NoEscape"], unfollowed := true, recurses := true, apart := false }
def RunesJoinSaid : Prop := runesJoinRow.holds Try.pinned (OpenSpec.ofChange runesJoinSpec)

/-- ITS FALSE NEIGHBOUR: 'it returns false'. Refute it at one input. -/
def runesJoinWrong : ChangeSpec := { name := "runesJoin", fn := fun _ => fun
  | [d1, d2] => { results := [.lit (.bool false)], args := [d1, d2] }
  | _ => none }
def RunesJoinWrongFalsely : Prop := runesJoinRow.holds Try.pinned (OpenSpec.ofChange runesJoinWrong)

/-- 'trestlelaw07.NodesFree': WHATEVER THE INPUT: true; the input reads as it did. -/
def nodesFreeSpec : ChangeSpec := { name := "nodesFree", fn := fun _ => fun
  | [d1, d2] => { results := [.lit (.bool true)], args := [d1, d2] }
  | _ => none }
def nodesFreeRow : OpenClaim := { program := "ytlmmhlabacghnaa", sum := "91894cbf93b3f0c64cdc5913efe4c267e30465954aa237ffa58c2a51a550d61b", func := "trestle/trestlelaw07.NodesFree", spec := "nodesFree", apart := false }
def NodesFreeSaid : Prop := nodesFreeRow.holds Try.pinned (OpenSpec.ofChange nodesFreeSpec)

/-- ITS FALSE NEIGHBOUR: 'it returns false'. Refute it at one input. -/
def nodesFreeWrong : ChangeSpec := { name := "nodesFree", fn := fun _ => fun
  | [d1, d2] => { results := [.lit (.bool false)], args := [d1, d2] }
  | _ => none }
def NodesFreeWrongFalsely : Prop := nodesFreeRow.holds Try.pinned (OpenSpec.ofChange nodesFreeWrong)

/-- 'trestlelaw07.NodesMap': WHATEVER THE INPUT: true; the input reads as it did. -/
def nodesMapSpec : ChangeSpec := { name := "nodesMap", fn := fun _ => fun
  | [d1, d2] => { results := [.lit (.bool true)], args := [d1, d2] }
  | _ => none }
def nodesMapRow : OpenClaim := { program := "ytlmmhlabacghnaa", sum := "91894cbf93b3f0c64cdc5913efe4c267e30465954aa237ffa58c2a51a550d61b", func := "trestle/trestlelaw07.NodesMap", spec := "nodesMap", apart := false }
def NodesMapSaid : Prop := nodesMapRow.holds Try.pinned (OpenSpec.ofChange nodesMapSpec)

/-- ITS FALSE NEIGHBOUR: 'it returns false'. Refute it at one input. -/
def nodesMapWrong : ChangeSpec := { name := "nodesMap", fn := fun _ => fun
  | [d1, d2] => { results := [.lit (.bool false)], args := [d1, d2] }
  | _ => none }
def NodesMapWrongFalsely : Prop := nodesMapRow.holds Try.pinned (OpenSpec.ofChange nodesMapWrong)

/-- 'trestlelaw07.NodesChains': WHATEVER THE INPUT: true; the input reads as it did. -/
def nodesChainsSpec : ChangeSpec := { name := "nodesChains", fn := fun _ => fun
  | [d1, d2] => { results := [.lit (.bool true)], args := [d1, d2] }
  | _ => none }
def nodesChainsRow : OpenClaim := { program := "ytlmmhlabacghnaa", sum := "91894cbf93b3f0c64cdc5913efe4c267e30465954aa237ffa58c2a51a550d61b", func := "trestle/trestlelaw07.NodesChains", spec := "nodesChains", apart := false }
def NodesChainsSaid : Prop := nodesChainsRow.holds Try.pinned (OpenSpec.ofChange nodesChainsSpec)

/-- ITS FALSE NEIGHBOUR: 'it returns false'. Refute it at one input. -/
def nodesChainsWrong : ChangeSpec := { name := "nodesChains", fn := fun _ => fun
  | [d1, d2] => { results := [.lit (.bool false)], args := [d1, d2] }
  | _ => none }
def NodesChainsWrongFalsely : Prop := nodesChainsRow.holds Try.pinned (OpenSpec.ofChange nodesChainsWrong)

/-- 'trestlelaw07.NodesFills': WHATEVER THE INPUT: true; the input reads as it did. -/
def nodesFillsSpec : ChangeSpec := { name := "nodesFills", fn := fun _ => fun
  | [d1, d2, d3] => { results := [.lit (.bool true)], args := [d1, d2, d3] }
  | _ => none }
def nodesFillsRow : OpenClaim := { program := "ytlmmhlabacghnaa", sum := "91894cbf93b3f0c64cdc5913efe4c267e30465954aa237ffa58c2a51a550d61b", func := "trestle/trestlelaw07.NodesFills", spec := "nodesFills", apart := false }
def NodesFillsSaid : Prop := nodesFillsRow.holds Try.pinned (OpenSpec.ofChange nodesFillsSpec)

/-- ITS FALSE NEIGHBOUR: 'it returns false'. Refute it at one input. -/
def nodesFillsWrong : ChangeSpec := { name := "nodesFills", fn := fun _ => fun
  | [d1, d2, d3] => { results := [.lit (.bool false)], args := [d1, d2, d3] }
  | _ => none }
def NodesFillsWrongFalsely : Prop := nodesFillsRow.holds Try.pinned (OpenSpec.ofChange nodesFillsWrong)

/-- 'trestlelaw07.NodesMemory': WHATEVER THE INPUT: true; the input reads as it did. -/
def nodesMemorySpec : ChangeSpec := { name := "nodesMemory", fn := fun _ => fun
  | [d1, d2] => { results := [.lit (.bool true)], args := [d1, d2] }
  | _ => none }
def nodesMemoryRow : OpenClaim := { program := "ytlmmhlabacghnaa", sum := "91894cbf93b3f0c64cdc5913efe4c267e30465954aa237ffa58c2a51a550d61b", func := "trestle/trestlelaw07.NodesMemory", spec := "nodesMemory", apart := false }
def NodesMemorySaid : Prop := nodesMemoryRow.holds Try.pinned (OpenSpec.ofChange nodesMemorySpec)

/-- ITS FALSE NEIGHBOUR: 'it returns false'. Refute it at one input. -/
def nodesMemoryWrong : ChangeSpec := { name := "nodesMemory", fn := fun _ => fun
  | [d1, d2] => { results := [.lit (.bool false)], args := [d1, d2] }
  | _ => none }
def NodesMemoryWrongFalsely : Prop := nodesMemoryRow.holds Try.pinned (OpenSpec.ofChange nodesMemoryWrong)

/-- 'trestlelaw07.NodesSets': WHATEVER THE INPUT: true; the input reads as it did. -/
def nodesSetsSpec : ChangeSpec := { name := "nodesSets", fn := fun _ => fun
  | [d1, d2, d3] => { results := [.lit (.bool true)], args := [d1, d2, d3] }
  | _ => none }
def nodesSetsRow : OpenClaim := { program := "ytlmmhlabacghnaa", sum := "91894cbf93b3f0c64cdc5913efe4c267e30465954aa237ffa58c2a51a550d61b", func := "trestle/trestlelaw07.NodesSets", spec := "nodesSets", apart := false }
def NodesSetsSaid : Prop := nodesSetsRow.holds Try.pinned (OpenSpec.ofChange nodesSetsSpec)

/-- ITS FALSE NEIGHBOUR: 'it returns false'. Refute it at one input. -/
def nodesSetsWrong : ChangeSpec := { name := "nodesSets", fn := fun _ => fun
  | [d1, d2, d3] => { results := [.lit (.bool false)], args := [d1, d2, d3] }
  | _ => none }
def NodesSetsWrongFalsely : Prop := nodesSetsRow.holds Try.pinned (OpenSpec.ofChange nodesSetsWrong)

/-- 'trestlelaw07.NodesPlays': WHATEVER THE INPUT: true; the input reads as it did. -/
def nodesPlaysSpec : ChangeSpec := { name := "nodesPlays", fn := fun _ => fun
  | [d1, d2] => { results := [.lit (.bool true)], args := [d1, d2] }
  | _ => none }
def nodesPlaysRow : OpenClaim := { program := "ytlmmhlabacghnaa", sum := "91894cbf93b3f0c64cdc5913efe4c267e30465954aa237ffa58c2a51a550d61b", func := "trestle/trestlelaw07.NodesPlays", spec := "nodesPlays", apart := false }
def NodesPlaysSaid : Prop := nodesPlaysRow.holds Try.pinned (OpenSpec.ofChange nodesPlaysSpec)

/-- ITS FALSE NEIGHBOUR: 'it returns false'. Refute it at one input. -/
def nodesPlaysWrong : ChangeSpec := { name := "nodesPlays", fn := fun _ => fun
  | [d1, d2] => { results := [.lit (.bool false)], args := [d1, d2] }
  | _ => none }
def NodesPlaysWrongFalsely : Prop := nodesPlaysRow.holds Try.pinned (OpenSpec.ofChange nodesPlaysWrong)

/-- 'trestlelaw07.NodesReads': WHATEVER THE INPUT: true; the input reads as it did. -/
def nodesReadsSpec : ChangeSpec := { name := "nodesReads", fn := fun _ => fun
  | [d1, d2] => { results := [.lit (.bool true)], args := [d1, d2] }
  | _ => none }
def nodesReadsRow : OpenClaim := { program := "ytlmmhlabacghnaa", sum := "91894cbf93b3f0c64cdc5913efe4c267e30465954aa237ffa58c2a51a550d61b", func := "trestle/trestlelaw07.NodesReads", spec := "nodesReads", apart := false }
def NodesReadsSaid : Prop := nodesReadsRow.holds Try.pinned (OpenSpec.ofChange nodesReadsSpec)

/-- ITS FALSE NEIGHBOUR: 'it returns false'. Refute it at one input. -/
def nodesReadsWrong : ChangeSpec := { name := "nodesReads", fn := fun _ => fun
  | [d1, d2] => { results := [.lit (.bool false)], args := [d1, d2] }
  | _ => none }
def NodesReadsWrongFalsely : Prop := nodesReadsRow.holds Try.pinned (OpenSpec.ofChange nodesReadsWrong)

/- THE SECOND FORM. 'bulk': how many values and letters a reading holds, each counted each time it is reached (what is shared counts as often as it is met; a slice's spare places count too). A statement '..UptoSaid' is the law's where the arguments, and the package variables that the reading takes, are together of bulk at most 1048576: NARROWER than '..Said'. Prove '..Said' where nothing that the law and all that it calls make is longer than what came in: it says more and counts as full. Else prove '..UptoSaid'. A law counts once. -/
mutual
def uptoBulk {H : Type} : DataW H → Nat
  | .lit (.string bytes) => bytes.length + 1
  | .lit _ => 1
  | .nil => 1
  | .ptr d => uptoBulk d + 1
  | .slice elems spare => uptoBulkAll elems + uptoBulkAll spare + 1
  | .agg parts => uptoBulkAll parts + 1
  | .iface _ d => uptoBulk d + 1
  | .map entries => uptoBulkEntries entries + 1
  | .held _ => 1
def uptoBulkAll {H : Type} : List (DataW H) → Nat
  | [] => 0
  | d :: r => uptoBulk d + uptoBulkAll r
def uptoBulkEntries {H : Type} : List (Lit × DataW H) → Nat
  | [] => 0
  | x :: r => uptoBulkEntry x + uptoBulkEntries r
def uptoBulkEntry {H : Type} : Lit × DataW H → Nat
  | (.string bytes, d) => bytes.length + uptoBulk d + 1
  | (_, d) => uptoBulk d + 1
 end
def uptoSmall : (H : Type) → List (DataW H) → Bool := fun _ ds => decide (uptoBulkAll ds ≤ 1048576)
def OpenSpec.upto (s : _root_.Go.ChangeSpec) : _root_.Go.OpenSpec := { _root_.Go.OpenSpec.ofChange s with cond := some uptoSmall }

/-- 'trestlelaw01.RunesOrder', WHERE WHAT IT READS IS OF BULK AT MOST 1048576: true; the input reads as it did. -/
def runesOrderUptoRow : OpenClaim := { program := "ytlmmhlabacghnaa", sum := "91894cbf93b3f0c64cdc5913efe4c267e30465954aa237ffa58c2a51a550d61b", func := "trestle/trestlelaw01.RunesOrder", spec := "runesOrder", unfollowed := true, recurses := true, apart := false, narrowed := true }
def RunesOrderUptoSaid : Prop := runesOrderUptoRow.holds Try.pinned (OpenSpec.upto runesOrderSpec)

/-- 'trestlelaw04.HashTexts', WHERE WHAT IT READS IS OF BULK AT MOST 1048576: true; the input reads as it did. -/
def hashTextsUptoRow : OpenClaim := { program := "ytlmmhlabacghnaa", sum := "91894cbf93b3f0c64cdc5913efe4c267e30465954aa237ffa58c2a51a550d61b", func := "trestle/trestlelaw04.HashTexts", spec := "hashTexts", apart := false, narrowed := true }
def HashTextsUptoSaid : Prop := hashTextsUptoRow.holds Try.pinned (OpenSpec.upto hashTextsSpec)

/-- 'trestlelaw04.HashPlaces', WHERE WHAT IT READS IS OF BULK AT MOST 1048576: true; the input reads as it did. -/
def hashPlacesUptoRow : OpenClaim := { program := "ytlmmhlabacghnaa", sum := "91894cbf93b3f0c64cdc5913efe4c267e30465954aa237ffa58c2a51a550d61b", func := "trestle/trestlelaw04.HashPlaces", spec := "hashPlaces", apart := false, narrowed := true }
def HashPlacesUptoSaid : Prop := hashPlacesUptoRow.holds Try.pinned (OpenSpec.upto hashPlacesSpec)

/-- 'trestlelaw04.HashHalves', WHERE WHAT IT READS IS OF BULK AT MOST 1048576: true; the input reads as it did. -/
def hashHalvesUptoRow : OpenClaim := { program := "ytlmmhlabacghnaa", sum := "91894cbf93b3f0c64cdc5913efe4c267e30465954aa237ffa58c2a51a550d61b", func := "trestle/trestlelaw04.HashHalves", spec := "hashHalves", apart := false, narrowed := true }
def HashHalvesUptoSaid : Prop := hashHalvesUptoRow.holds Try.pinned (OpenSpec.upto hashHalvesSpec)

/-- 'trestlelaw04.HashSame', WHERE WHAT IT READS IS OF BULK AT MOST 1048576: true; the input reads as it did. -/
def hashSameUptoRow : OpenClaim := { program := "ytlmmhlabacghnaa", sum := "91894cbf93b3f0c64cdc5913efe4c267e30465954aa237ffa58c2a51a550d61b", func := "trestle/trestlelaw04.HashSame", spec := "hashSame", apart := false, narrowed := true }
def HashSameUptoSaid : Prop := hashSameUptoRow.holds Try.pinned (OpenSpec.upto hashSameSpec)

/-- 'trestlelaw01.RunesLines', WHERE WHAT IT READS IS OF BULK AT MOST 1048576: true; the input reads as it did. -/
def runesLinesUptoRow : OpenClaim := { program := "ytlmmhlabacghnaa", sum := "91894cbf93b3f0c64cdc5913efe4c267e30465954aa237ffa58c2a51a550d61b", func := "trestle/trestlelaw01.RunesLines", spec := "runesLines", unfollowed := true, recurses := true, apart := false, narrowed := true }
def RunesLinesUptoSaid : Prop := runesLinesUptoRow.holds Try.pinned (OpenSpec.upto runesLinesSpec)

/-- 'trestlelaw01.RunesLists', WHERE WHAT IT READS IS OF BULK AT MOST 1048576: true; the input reads as it did. -/
def runesListsUptoRow : OpenClaim := { program := "ytlmmhlabacghnaa", sum := "91894cbf93b3f0c64cdc5913efe4c267e30465954aa237ffa58c2a51a550d61b", func := "trestle/trestlelaw01.RunesLists", spec := "runesLists", unfollowed := true, recurses := true, apart := false, narrowed := true }
def RunesListsUptoSaid : Prop := runesListsUptoRow.holds Try.pinned (OpenSpec.upto runesListsSpec)

/-- 'trestlelaw04.HashRows', WHERE WHAT IT READS IS OF BULK AT MOST 1048576: true; the input reads as it did. -/
def hashRowsUptoRow : OpenClaim := { program := "ytlmmhlabacghnaa", sum := "91894cbf93b3f0c64cdc5913efe4c267e30465954aa237ffa58c2a51a550d61b", func := "trestle/trestlelaw04.HashRows", spec := "hashRows", apart := false, narrowed := true }
def HashRowsUptoSaid : Prop := hashRowsUptoRow.holds Try.pinned (OpenSpec.upto hashRowsSpec)

/-- 'trestlelaw04.HashSpreads', WHERE WHAT IT READS IS OF BULK AT MOST 1048576: true; the input reads as it did. -/
def hashSpreadsUptoRow : OpenClaim := { program := "ytlmmhlabacghnaa", sum := "91894cbf93b3f0c64cdc5913efe4c267e30465954aa237ffa58c2a51a550d61b", func := "trestle/trestlelaw04.HashSpreads", spec := "hashSpreads", apart := false, narrowed := true }
def HashSpreadsUptoSaid : Prop := hashSpreadsUptoRow.holds Try.pinned (OpenSpec.upto hashSpreadsSpec)

/-- 'trestlelaw04.HashAgain', WHERE WHAT IT READS IS OF BULK AT MOST 1048576: true; the input reads as it did. -/
def hashAgainUptoRow : OpenClaim := { program := "ytlmmhlabacghnaa", sum := "91894cbf93b3f0c64cdc5913efe4c267e30465954aa237ffa58c2a51a550d61b", func := "trestle/trestlelaw04.HashAgain", spec := "hashAgain", apart := false, narrowed := true }
def HashAgainUptoSaid : Prop := hashAgainUptoRow.holds Try.pinned (OpenSpec.upto hashAgainSpec)

/-- 'trestlelaw01.RunesJoin', WHERE WHAT IT READS IS OF BULK AT MOST 1048576: true; the input reads as it did. -/
def runesJoinUptoRow : OpenClaim := { program := "ytlmmhlabacghnaa", sum := "91894cbf93b3f0c64cdc5913efe4c267e30465954aa237ffa58c2a51a550d61b", func := "trestle/trestlelaw01.RunesJoin", spec := "runesJoin", inPlace := ["internal/abi.NoEscape"], unfollowed := true, recurses := true, apart := false, narrowed := true }
def RunesJoinUptoSaid : Prop := runesJoinUptoRow.holds Try.pinned (OpenSpec.upto runesJoinSpec)

/-- 'trestlelaw07.NodesFree', WHERE WHAT IT READS IS OF BULK AT MOST 1048576: true; the input reads as it did. -/
def nodesFreeUptoRow : OpenClaim := { program := "ytlmmhlabacghnaa", sum := "91894cbf93b3f0c64cdc5913efe4c267e30465954aa237ffa58c2a51a550d61b", func := "trestle/trestlelaw07.NodesFree", spec := "nodesFree", apart := false, narrowed := true }
def NodesFreeUptoSaid : Prop := nodesFreeUptoRow.holds Try.pinned (OpenSpec.upto nodesFreeSpec)

/-- 'trestlelaw07.NodesMap', WHERE WHAT IT READS IS OF BULK AT MOST 1048576: true; the input reads as it did. -/
def nodesMapUptoRow : OpenClaim := { program := "ytlmmhlabacghnaa", sum := "91894cbf93b3f0c64cdc5913efe4c267e30465954aa237ffa58c2a51a550d61b", func := "trestle/trestlelaw07.NodesMap", spec := "nodesMap", apart := false, narrowed := true }
def NodesMapUptoSaid : Prop := nodesMapUptoRow.holds Try.pinned (OpenSpec.upto nodesMapSpec)

/-- 'trestlelaw07.NodesChains', WHERE WHAT IT READS IS OF BULK AT MOST 1048576: true; the input reads as it did. -/
def nodesChainsUptoRow : OpenClaim := { program := "ytlmmhlabacghnaa", sum := "91894cbf93b3f0c64cdc5913efe4c267e30465954aa237ffa58c2a51a550d61b", func := "trestle/trestlelaw07.NodesChains", spec := "nodesChains", apart := false, narrowed := true }
def NodesChainsUptoSaid : Prop := nodesChainsUptoRow.holds Try.pinned (OpenSpec.upto nodesChainsSpec)

/-- 'trestlelaw07.NodesFills', WHERE WHAT IT READS IS OF BULK AT MOST 1048576: true; the input reads as it did. -/
def nodesFillsUptoRow : OpenClaim := { program := "ytlmmhlabacghnaa", sum := "91894cbf93b3f0c64cdc5913efe4c267e30465954aa237ffa58c2a51a550d61b", func := "trestle/trestlelaw07.NodesFills", spec := "nodesFills", apart := false, narrowed := true }
def NodesFillsUptoSaid : Prop := nodesFillsUptoRow.holds Try.pinned (OpenSpec.upto nodesFillsSpec)

/-- 'trestlelaw07.NodesMemory', WHERE WHAT IT READS IS OF BULK AT MOST 1048576: true; the input reads as it did. -/
def nodesMemoryUptoRow : OpenClaim := { program := "ytlmmhlabacghnaa", sum := "91894cbf93b3f0c64cdc5913efe4c267e30465954aa237ffa58c2a51a550d61b", func := "trestle/trestlelaw07.NodesMemory", spec := "nodesMemory", apart := false, narrowed := true }
def NodesMemoryUptoSaid : Prop := nodesMemoryUptoRow.holds Try.pinned (OpenSpec.upto nodesMemorySpec)

/-- 'trestlelaw07.NodesSets', WHERE WHAT IT READS IS OF BULK AT MOST 1048576: true; the input reads as it did. -/
def nodesSetsUptoRow : OpenClaim := { program := "ytlmmhlabacghnaa", sum := "91894cbf93b3f0c64cdc5913efe4c267e30465954aa237ffa58c2a51a550d61b", func := "trestle/trestlelaw07.NodesSets", spec := "nodesSets", apart := false, narrowed := true }
def NodesSetsUptoSaid : Prop := nodesSetsUptoRow.holds Try.pinned (OpenSpec.upto nodesSetsSpec)

/-- 'trestlelaw07.NodesPlays', WHERE WHAT IT READS IS OF BULK AT MOST 1048576: true; the input reads as it did. -/
def nodesPlaysUptoRow : OpenClaim := { program := "ytlmmhlabacghnaa", sum := "91894cbf93b3f0c64cdc5913efe4c267e30465954aa237ffa58c2a51a550d61b", func := "trestle/trestlelaw07.NodesPlays", spec := "nodesPlays", apart := false, narrowed := true }
def NodesPlaysUptoSaid : Prop := nodesPlaysUptoRow.holds Try.pinned (OpenSpec.upto nodesPlaysSpec)

/-- 'trestlelaw07.NodesReads', WHERE WHAT IT READS IS OF BULK AT MOST 1048576: true; the input reads as it did. -/
def nodesReadsUptoRow : OpenClaim := { program := "ytlmmhlabacghnaa", sum := "91894cbf93b3f0c64cdc5913efe4c267e30465954aa237ffa58c2a51a550d61b", func := "trestle/trestlelaw07.NodesReads", spec := "nodesReads", apart := false, narrowed := true }
def NodesReadsUptoSaid : Prop := nodesReadsUptoRow.holds Try.pinned (OpenSpec.upto nodesReadsSpec)

end Rows
end Go.Proofs.Ytlmmhlabacghnaa
