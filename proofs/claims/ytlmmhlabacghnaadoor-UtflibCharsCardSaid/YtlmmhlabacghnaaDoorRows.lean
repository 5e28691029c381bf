/-
  NARROWER THAN 'FOR EVERY INPUT', by the rows' own cells (each row's printed sentence says how): RunesCodes: laid · RunesPlaces: laid · RunesWhole: laid · UtflibChars: laid · UtflibOffsets: laid · UtflibParts: laid · UtflibBack: laid · UtflibCounts: laid · UtflibOne: laid · UtflibValid: laid.
  DERIVED. THE GIVEN ROWS OF THIS SEAT. 10 by the template 'for every input the law returns true; each argument reads behind the call as it read before'; 0 by the template 'total and deterministic' (their statements: YtlmmhlabacghnaaDoorTotals.lean).
  GIVEN WITH THE SEED: the statements are not yours to turn. If you find one false, say at which input.
  Laid BY PROGRAM, IN A SANDBOX (cutbox-rows.mjs): the forced cells as the released guide's own fill.sh prints them over the translation 0a53558b90a74c74… (all of the seat's roots in one cut). By AI agents, Wed Nov 11 2026. No macro, syntax, notation, axiom, sorry.
-/
import Derived.Test.YtlmmhlabacghnaaDoorChecked
import GoSem.PinnedTables
import GoSem.Claim
import GoSem.ClaimJoined
import GoSem.ClaimMapViews
import Derived.JoinedTies
import Derived.KernelRfl
namespace Go.Proofs.YtlmmhlabacghnaaDoor
/- THE CELL 'sum', in the pinned program and in every row, IS THE sha256 OF THE DUMP (.gsa) THAT YtlmmhlabacghnaaDoorProg.lean LOADS. Nothing in Lean hashes anything: it is a label: what it is worth is what the hold of that sum in a sandbox is worth. -/
noncomputable def Tryd.pinned : Pinned := { name := "ytlmmhlabacghnaadoor", sum := "0a53558b90a74c747fc3d944b3234d5543f9272359f2a8188ced2ece73c49078", checked := Tryd.checked }
namespace Rows
def none {H : Type} : Left H := { results := [], args := [] }

/- WHAT THE LISTED PACKAGE-LEVEL VARIABLES READ AS WHEN THE CALL BEGINS. Each datum BY PROGRAM (the guide's laid-datum.mjs) off the statement by which the dump's own 'gosem.cut.vars' lays the variable. In a bare row this is a premise. The card (YtlmmhlabacghnaaDoorCards.lean) ties it to the program's text. -/
def laid_unicode_utf8_acceptRanges {H : Type} : DataW H := .agg [.agg [.lit (.int .u8 128), .lit (.int .u8 191)], .agg [.lit (.int .u8 160), .lit (.int .u8 191)], .agg [.lit (.int .u8 128), .lit (.int .u8 159)], .agg [.lit (.int .u8 144), .lit (.int .u8 191)], .agg [.lit (.int .u8 128), .lit (.int .u8 143)], .agg [.lit (.int .u8 0), .lit (.int .u8 0)], .agg [.lit (.int .u8 0), .lit (.int .u8 0)], .agg [.lit (.int .u8 0), .lit (.int .u8 0)], .agg [.lit (.int .u8 0), .lit (.int .u8 0)], .agg [.lit (.int .u8 0), .lit (.int .u8 0)], .agg [.lit (.int .u8 0), .lit (.int .u8 0)], .agg [.lit (.int .u8 0), .lit (.int .u8 0)], .agg [.lit (.int .u8 0), .lit (.int .u8 0)], .agg [.lit (.int .u8 0), .lit (.int .u8 0)], .agg [.lit (.int .u8 0), .lit (.int .u8 0)], .agg [.lit (.int .u8 0), .lit (.int .u8 0)]]
/-- One of Go's own tables, pinned by name: the form's constant. -/
def laid_unicode_utf8_first : DataW Unit := Go.Pinned.utf8First

/-- 'trestlelaw01.RunesCodes': WHATEVER THE INPUT: true; the input reads as it did. -/
def runesCodesSpec : ChangeSpec := { name := "runesCodes", fn := fun _ => fun
  | [d] => { results := [.lit (.bool true)], args := [d] }
  | _ => none }
def runesCodesRow : OpenClaim := { program := "ytlmmhlabacghnaadoor", sum := "0a53558b90a74c747fc3d944b3234d5543f9272359f2a8188ced2ece73c49078", func := "trestle/trestlelaw01.RunesCodes", spec := "runesCodes", unfollowed := true, recurses := true, named := ["unicode/utf8.first", "unicode/utf8.acceptRanges"], apart := false, laid := [("unicode/utf8.acceptRanges", laid_unicode_utf8_acceptRanges), ("unicode/utf8.first", laid_unicode_utf8_first)] }
def RunesCodesSaid : Prop := runesCodesRow.holds Tryd.pinned (OpenSpec.ofChange runesCodesSpec)

/-- ITS FALSE NEIGHBOUR: 'it returns false'. Refute it at one input. -/
def runesCodesWrong : ChangeSpec := { name := "runesCodes", fn := fun _ => fun
  | [d] => { results := [.lit (.bool false)], args := [d] }
  | _ => none }
def RunesCodesWrongFalsely : Prop := runesCodesRow.holds Tryd.pinned (OpenSpec.ofChange runesCodesWrong)

/-- 'trestlelaw01.RunesPlaces': WHATEVER THE INPUT: true; the input reads as it did. -/
def runesPlacesSpec : ChangeSpec := { name := "runesPlaces", fn := fun _ => fun
  | [d1, d2, d3] => { results := [.lit (.bool true)], args := [d1, d2, d3] }
  | _ => none }
def runesPlacesRow : OpenClaim := { program := "ytlmmhlabacghnaadoor", sum := "0a53558b90a74c747fc3d944b3234d5543f9272359f2a8188ced2ece73c49078", func := "trestle/trestlelaw01.RunesPlaces", spec := "runesPlaces", inPlace := ["internal/abi.NoEscape"], unfollowed := true, recurses := true, named := ["unicode/utf8.first", "unicode/utf8.acceptRanges"], apart := false, laid := [("unicode/utf8.acceptRanges", laid_unicode_utf8_acceptRanges), ("unicode/utf8.first", laid_unicode_utf8_first)] }
def RunesPlacesSaid : Prop := runesPlacesRow.holds Tryd.pinned (OpenSpec.ofChange runesPlacesSpec)

/-- ITS FALSE NEIGHBOUR: 'it returns false'. Refute it at one input. -/
def runesPlacesWrong : ChangeSpec := { name := "runesPlaces", fn := fun _ => fun
  | [d1, d2, d3] => { results := [.lit (.bool false)], args := [d1, d2, d3] }
  | _ => none }
def RunesPlacesWrongFalsely : Prop := runesPlacesRow.holds Tryd.pinned (OpenSpec.ofChange runesPlacesWrong)

/-- 'trestlelaw01.RunesWhole': WHATEVER THE INPUT: true; the input reads as it did. -/
def runesWholeSpec : ChangeSpec := { name := "runesWhole", fn := fun _ => fun
  | [d1, d2] => { results := [.lit (.bool true)], args := [d1, d2] }
  | _ => none }
def runesWholeRow : OpenClaim := { program := "ytlmmhlabacghnaadoor", sum := "0a53558b90a74c747fc3d944b3234d5543f9272359f2a8188ced2ece73c49078", func := "trestle/trestlelaw01.RunesWhole", spec := "runesWhole", inPlace := ["internal/abi.NoEscape"], unfollowed := true, recurses := true, named := ["unicode/utf8.first", "unicode/utf8.acceptRanges"], apart := false, laid := [("unicode/utf8.acceptRanges", laid_unicode_utf8_acceptRanges), ("unicode/utf8.first", laid_unicode_utf8_first)] }
def RunesWholeSaid : Prop := runesWholeRow.holds Tryd.pinned (OpenSpec.ofChange runesWholeSpec)

/-- ITS FALSE NEIGHBOUR: 'it returns false'. Refute it at one input. -/
def runesWholeWrong : ChangeSpec := { name := "runesWhole", fn := fun _ => fun
  | [d1, d2] => { results := [.lit (.bool false)], args := [d1, d2] }
  | _ => none }
def RunesWholeWrongFalsely : Prop := runesWholeRow.holds Tryd.pinned (OpenSpec.ofChange runesWholeWrong)

/-- 'trestlelaw17.UtflibChars': WHATEVER THE INPUT: true; the input reads as it did. -/
def utflibCharsSpec : ChangeSpec := { name := "utflibChars", fn := fun _ => fun
  | [d] => { results := [.lit (.bool true)], args := [d] }
  | _ => none }
def utflibCharsRow : OpenClaim := { program := "ytlmmhlabacghnaadoor", sum := "0a53558b90a74c747fc3d944b3234d5543f9272359f2a8188ced2ece73c49078", func := "trestle/trestlelaw17.UtflibChars", spec := "utflibChars", inPlace := ["internal/abi.NoEscape"], unfollowed := true, recurses := true, named := ["unicode/utf8.first", "unicode/utf8.acceptRanges"], apart := false, laid := [("unicode/utf8.acceptRanges", laid_unicode_utf8_acceptRanges), ("unicode/utf8.first", laid_unicode_utf8_first)] }
def UtflibCharsSaid : Prop := utflibCharsRow.holds Tryd.pinned (OpenSpec.ofChange utflibCharsSpec)

/-- ITS FALSE NEIGHBOUR: 'it returns false'. Refute it at one input. -/
def utflibCharsWrong : ChangeSpec := { name := "utflibChars", fn := fun _ => fun
  | [d] => { results := [.lit (.bool false)], args := [d] }
  | _ => none }
def UtflibCharsWrongFalsely : Prop := utflibCharsRow.holds Tryd.pinned (OpenSpec.ofChange utflibCharsWrong)

/-- 'trestlelaw17.UtflibOffsets': WHATEVER THE INPUT: true; the input reads as it did. -/
def utflibOffsetsSpec : ChangeSpec := { name := "utflibOffsets", fn := fun _ => fun
  | [d1, d2, d3] => { results := [.lit (.bool true)], args := [d1, d2, d3] }
  | _ => none }
def utflibOffsetsRow : OpenClaim := { program := "ytlmmhlabacghnaadoor", sum := "0a53558b90a74c747fc3d944b3234d5543f9272359f2a8188ced2ece73c49078", func := "trestle/trestlelaw17.UtflibOffsets", spec := "utflibOffsets", inPlace := ["internal/abi.NoEscape"], unfollowed := true, recurses := true, named := ["unicode/utf8.first", "unicode/utf8.acceptRanges"], apart := false, laid := [("unicode/utf8.acceptRanges", laid_unicode_utf8_acceptRanges), ("unicode/utf8.first", laid_unicode_utf8_first)] }
def UtflibOffsetsSaid : Prop := utflibOffsetsRow.holds Tryd.pinned (OpenSpec.ofChange utflibOffsetsSpec)

/-- ITS FALSE NEIGHBOUR: 'it returns false'. Refute it at one input. -/
def utflibOffsetsWrong : ChangeSpec := { name := "utflibOffsets", fn := fun _ => fun
  | [d1, d2, d3] => { results := [.lit (.bool false)], args := [d1, d2, d3] }
  | _ => none }
def UtflibOffsetsWrongFalsely : Prop := utflibOffsetsRow.holds Tryd.pinned (OpenSpec.ofChange utflibOffsetsWrong)

/-- 'trestlelaw17.UtflibParts': WHATEVER THE INPUT: true; the input reads as it did. -/
def utflibPartsSpec : ChangeSpec := { name := "utflibParts", fn := fun _ => fun
  | [d1, d2] => { results := [.lit (.bool true)], args := [d1, d2] }
  | _ => none }
def utflibPartsRow : OpenClaim := { program := "ytlmmhlabacghnaadoor", sum := "0a53558b90a74c747fc3d944b3234d5543f9272359f2a8188ced2ece73c49078", func := "trestle/trestlelaw17.UtflibParts", spec := "utflibParts", inPlace := ["internal/abi.NoEscape"], unfollowed := true, recurses := true, named := ["unicode/utf8.first", "unicode/utf8.acceptRanges"], apart := false, laid := [("unicode/utf8.acceptRanges", laid_unicode_utf8_acceptRanges), ("unicode/utf8.first", laid_unicode_utf8_first)] }
def UtflibPartsSaid : Prop := utflibPartsRow.holds Tryd.pinned (OpenSpec.ofChange utflibPartsSpec)

/-- ITS FALSE NEIGHBOUR: 'it returns false'. Refute it at one input. -/
def utflibPartsWrong : ChangeSpec := { name := "utflibParts", fn := fun _ => fun
  | [d1, d2] => { results := [.lit (.bool false)], args := [d1, d2] }
  | _ => none }
def UtflibPartsWrongFalsely : Prop := utflibPartsRow.holds Tryd.pinned (OpenSpec.ofChange utflibPartsWrong)

/-- 'trestlelaw17.UtflibBack': WHATEVER THE INPUT: true; the input reads as it did. -/
def utflibBackSpec : ChangeSpec := { name := "utflibBack", fn := fun _ => fun
  | [d1, d2] => { results := [.lit (.bool true)], args := [d1, d2] }
  | _ => none }
def utflibBackRow : OpenClaim := { program := "ytlmmhlabacghnaadoor", sum := "0a53558b90a74c747fc3d944b3234d5543f9272359f2a8188ced2ece73c49078", func := "trestle/trestlelaw17.UtflibBack", spec := "utflibBack", inPlace := ["internal/abi.NoEscape"], unfollowed := true, recurses := true, named := ["unicode/utf8.first", "unicode/utf8.acceptRanges"], apart := false, laid := [("unicode/utf8.acceptRanges", laid_unicode_utf8_acceptRanges), ("unicode/utf8.first", laid_unicode_utf8_first)] }
def UtflibBackSaid : Prop := utflibBackRow.holds Tryd.pinned (OpenSpec.ofChange utflibBackSpec)

/-- ITS FALSE NEIGHBOUR: 'it returns false'. Refute it at one input. -/
def utflibBackWrong : ChangeSpec := { name := "utflibBack", fn := fun _ => fun
  | [d1, d2] => { results := [.lit (.bool false)], args := [d1, d2] }
  | _ => none }
def UtflibBackWrongFalsely : Prop := utflibBackRow.holds Tryd.pinned (OpenSpec.ofChange utflibBackWrong)

/-- 'trestlelaw17.UtflibCounts': WHATEVER THE INPUT: true; the input reads as it did. -/
def utflibCountsSpec : ChangeSpec := { name := "utflibCounts", fn := fun _ => fun
  | [d1, d2, d3] => { results := [.lit (.bool true)], args := [d1, d2, d3] }
  | _ => none }
def utflibCountsRow : OpenClaim := { program := "ytlmmhlabacghnaadoor", sum := "0a53558b90a74c747fc3d944b3234d5543f9272359f2a8188ced2ece73c49078", func := "trestle/trestlelaw17.UtflibCounts", spec := "utflibCounts", inPlace := ["internal/abi.NoEscape"], unfollowed := true, recurses := true, named := ["unicode/utf8.first", "unicode/utf8.acceptRanges"], apart := false, laid := [("unicode/utf8.acceptRanges", laid_unicode_utf8_acceptRanges), ("unicode/utf8.first", laid_unicode_utf8_first)] }
def UtflibCountsSaid : Prop := utflibCountsRow.holds Tryd.pinned (OpenSpec.ofChange utflibCountsSpec)

/-- ITS FALSE NEIGHBOUR: 'it returns false'. Refute it at one input. -/
def utflibCountsWrong : ChangeSpec := { name := "utflibCounts", fn := fun _ => fun
  | [d1, d2, d3] => { results := [.lit (.bool false)], args := [d1, d2, d3] }
  | _ => none }
def UtflibCountsWrongFalsely : Prop := utflibCountsRow.holds Tryd.pinned (OpenSpec.ofChange utflibCountsWrong)

/-- 'trestlelaw17.UtflibOne': WHATEVER THE INPUT: true; the input reads as it did. -/
def utflibOneSpec : ChangeSpec := { name := "utflibOne", fn := fun _ => fun
  | [d] => { results := [.lit (.bool true)], args := [d] }
  | _ => none }
def utflibOneRow : OpenClaim := { program := "ytlmmhlabacghnaadoor", sum := "0a53558b90a74c747fc3d944b3234d5543f9272359f2a8188ced2ece73c49078", func := "trestle/trestlelaw17.UtflibOne", spec := "utflibOne", inPlace := ["internal/abi.NoEscape"], unfollowed := true, recurses := true, named := ["unicode/utf8.first", "unicode/utf8.acceptRanges"], apart := false, laid := [("unicode/utf8.acceptRanges", laid_unicode_utf8_acceptRanges), ("unicode/utf8.first", laid_unicode_utf8_first)] }
def UtflibOneSaid : Prop := utflibOneRow.holds Tryd.pinned (OpenSpec.ofChange utflibOneSpec)

/-- ITS FALSE NEIGHBOUR: 'it returns false'. Refute it at one input. -/
def utflibOneWrong : ChangeSpec := { name := "utflibOne", fn := fun _ => fun
  | [d] => { results := [.lit (.bool false)], args := [d] }
  | _ => none }
def UtflibOneWrongFalsely : Prop := utflibOneRow.holds Tryd.pinned (OpenSpec.ofChange utflibOneWrong)

/-- 'trestlelaw17.UtflibValid': WHATEVER THE INPUT: true; the input reads as it did. -/
def utflibValidSpec : ChangeSpec := { name := "utflibValid", fn := fun _ => fun
  | [d] => { results := [.lit (.bool true)], args := [d] }
  | _ => none }
def utflibValidRow : OpenClaim := { program := "ytlmmhlabacghnaadoor", sum := "0a53558b90a74c747fc3d944b3234d5543f9272359f2a8188ced2ece73c49078", func := "trestle/trestlelaw17.UtflibValid", spec := "utflibValid", inPlace := ["internal/abi.NoEscape"], unfollowed := true, recurses := true, named := ["unicode/utf8.first", "unicode/utf8.acceptRanges"], apart := false, laid := [("unicode/utf8.acceptRanges", laid_unicode_utf8_acceptRanges), ("unicode/utf8.first", laid_unicode_utf8_first)] }
def UtflibValidSaid : Prop := utflibValidRow.holds Tryd.pinned (OpenSpec.ofChange utflibValidSpec)

/-- ITS FALSE NEIGHBOUR: 'it returns false'. Refute it at one input. -/
def utflibValidWrong : ChangeSpec := { name := "utflibValid", fn := fun _ => fun
  | [d] => { results := [.lit (.bool false)], args := [d] }
  | _ => none }
def UtflibValidWrongFalsely : Prop := utflibValidRow.holds Tryd.pinned (OpenSpec.ofChange utflibValidWrong)

/- THE SECOND FORM. 'bulk': how many values and letters a reading holds, each counted each time it is reached (what is shared counts as often as it is met; a slice's spare places count too). A statement '..UptoSaid' is the law's where the arguments, and the package variables that the reading takes, are together of bulk at most 1048576: NARROWER than '..Said'. Prove '..Said' where nothing that the law and all that it calls make is longer than what came in: it says more and counts as full. Else prove '..UptoSaid'. A law counts once. -/
mutual
def uptoBulk {H : Type} : DataW H → Nat
  | .lit (.string bytes) => bytes.length + 1
  | .lit _ => 1
  | .nil => 1
  | .ptr d => uptoBulk d + 1
  | .slice elems spare => uptoBulkAll elems + uptoBulkAll spare + 1
  | .agg parts => uptoBulkAll parts + 1
  | .iface _ d => uptoBulk d + 1
  | .map entries => uptoBulkEntries entries + 1
  | .held _ => 1
def uptoBulkAll {H : Type} : List (DataW H) → Nat
  | [] => 0
  | d :: r => uptoBulk d + uptoBulkAll r
def uptoBulkEntries {H : Type} : List (Lit × DataW H) → Nat
  | [] => 0
  | x :: r => uptoBulkEntry x + uptoBulkEntries r
def uptoBulkEntry {H : Type} : Lit × DataW H → Nat
  | (.string bytes, d) => bytes.length + uptoBulk d + 1
  | (_, d) => uptoBulk d + 1
 end
def uptoSmall : (H : Type) → List (DataW H) → Bool := fun _ ds => decide (uptoBulkAll ds ≤ 1048576)
def OpenSpec.upto (s : _root_.Go.ChangeSpec) : _root_.Go.OpenSpec := { _root_.Go.OpenSpec.ofChange s with cond := some uptoSmall }

/-- 'trestlelaw01.RunesCodes', WHERE WHAT IT READS IS OF BULK AT MOST 1048576: true; the input reads as it did. -/
def runesCodesUptoRow : OpenClaim := { program := "ytlmmhlabacghnaadoor", sum := "0a53558b90a74c747fc3d944b3234d5543f9272359f2a8188ced2ece73c49078", func := "trestle/trestlelaw01.RunesCodes", spec := "runesCodes", unfollowed := true, recurses := true, named := ["unicode/utf8.first", "unicode/utf8.acceptRanges"], apart := false, laid := [("unicode/utf8.acceptRanges", laid_unicode_utf8_acceptRanges), ("unicode/utf8.first", laid_unicode_utf8_first)], narrowed := true }
def RunesCodesUptoSaid : Prop := runesCodesUptoRow.holds Tryd.pinned (OpenSpec.upto runesCodesSpec)

/-- 'trestlelaw01.RunesPlaces', WHERE WHAT IT READS IS OF BULK AT MOST 1048576: true; the input reads as it did. -/
def runesPlacesUptoRow : OpenClaim := { program := "ytlmmhlabacghnaadoor", sum := "0a53558b90a74c747fc3d944b3234d5543f9272359f2a8188ced2ece73c49078", func := "trestle/trestlelaw01.RunesPlaces", spec := "runesPlaces", inPlace := ["internal/abi.NoEscape"], unfollowed := true, recurses := true, named := ["unicode/utf8.first", "unicode/utf8.acceptRanges"], apart := false, laid := [("unicode/utf8.acceptRanges", laid_unicode_utf8_acceptRanges), ("unicode/utf8.first", laid_unicode_utf8_first)], narrowed := true }
def RunesPlacesUptoSaid : Prop := runesPlacesUptoRow.holds Tryd.pinned (OpenSpec.upto runesPlacesSpec)

/-- 'trestlelaw01.RunesWhole', WHERE WHAT IT READS IS OF BULK AT MOST 1048576: true; the input reads as it did. -/
def runesWholeUptoRow : OpenClaim := { program := "ytlmmhlabacghnaadoor", sum := "0a53558b90a74c747fc3d944b3234d5543f9272359f2a8188ced2ece73c49078", func := "trestle/trestlelaw01.RunesWhole", spec := "runesWhole", inPlace := ["internal/abi.NoEscape"], unfollowed := true, recurses := true, named := ["unicode/utf8.first", "unicode/utf8.acceptRanges"], apart := false, laid := [("unicode/utf8.acceptRanges", laid_unicode_utf8_acceptRanges), ("unicode/utf8.first", laid_unicode_utf8_first)], narrowed := true }
def RunesWholeUptoSaid : Prop := runesWholeUptoRow.holds Tryd.pinned (OpenSpec.upto runesWholeSpec)

/-- 'trestlelaw17.UtflibChars', WHERE WHAT IT READS IS OF BULK AT MOST 1048576: true; the input reads as it did. -/
def utflibCharsUptoRow : OpenClaim := { program := "ytlmmhlabacghnaadoor", sum := "0a53558b90a74c747fc3d944b3234d5543f9272359f2a8188ced2ece73c49078", func := "trestle/trestlelaw17.UtflibChars", spec := "utflibChars", inPlace := ["internal/abi.NoEscape"], unfollowed := true, recurses := true, named := ["unicode/utf8.first", "unicode/utf8.acceptRanges"], apart := false, laid := [("unicode/utf8.acceptRanges", laid_unicode_utf8_acceptRanges), ("unicode/utf8.first", laid_unicode_utf8_first)], narrowed := true }
def UtflibCharsUptoSaid : Prop := utflibCharsUptoRow.holds Tryd.pinned (OpenSpec.upto utflibCharsSpec)

/-- 'trestlelaw17.UtflibOffsets', WHERE WHAT IT READS IS OF BULK AT MOST 1048576: true; the input reads as it did. -/
def utflibOffsetsUptoRow : OpenClaim := { program := "ytlmmhlabacghnaadoor", sum := "0a53558b90a74c747fc3d944b3234d5543f9272359f2a8188ced2ece73c49078", func := "trestle/trestlelaw17.UtflibOffsets", spec := "utflibOffsets", inPlace := ["internal/abi.NoEscape"], unfollowed := true, recurses := true, named := ["unicode/utf8.first", "unicode/utf8.acceptRanges"], apart := false, laid := [("unicode/utf8.acceptRanges", laid_unicode_utf8_acceptRanges), ("unicode/utf8.first", laid_unicode_utf8_first)], narrowed := true }
def UtflibOffsetsUptoSaid : Prop := utflibOffsetsUptoRow.holds Tryd.pinned (OpenSpec.upto utflibOffsetsSpec)

/-- 'trestlelaw17.UtflibParts', WHERE WHAT IT READS IS OF BULK AT MOST 1048576: true; the input reads as it did. -/
def utflibPartsUptoRow : OpenClaim := { program := "ytlmmhlabacghnaadoor", sum := "0a53558b90a74c747fc3d944b3234d5543f9272359f2a8188ced2ece73c49078", func := "trestle/trestlelaw17.UtflibParts", spec := "utflibParts", inPlace := ["internal/abi.NoEscape"], unfollowed := true, recurses := true, named := ["unicode/utf8.first", "unicode/utf8.acceptRanges"], apart := false, laid := [("unicode/utf8.acceptRanges", laid_unicode_utf8_acceptRanges), ("unicode/utf8.first", laid_unicode_utf8_first)], narrowed := true }
def UtflibPartsUptoSaid : Prop := utflibPartsUptoRow.holds Tryd.pinned (OpenSpec.upto utflibPartsSpec)

/-- 'trestlelaw17.UtflibBack', WHERE WHAT IT READS IS OF BULK AT MOST 1048576: true; the input reads as it did. -/
def utflibBackUptoRow : OpenClaim := { program := "ytlmmhlabacghnaadoor", sum := "0a53558b90a74c747fc3d944b3234d5543f9272359f2a8188ced2ece73c49078", func := "trestle/trestlelaw17.UtflibBack", spec := "utflibBack", inPlace := ["internal/abi.NoEscape"], unfollowed := true, recurses := true, named := ["unicode/utf8.first", "unicode/utf8.acceptRanges"], apart := false, laid := [("unicode/utf8.acceptRanges", laid_unicode_utf8_acceptRanges), ("unicode/utf8.first", laid_unicode_utf8_first)], narrowed := true }
def UtflibBackUptoSaid : Prop := utflibBackUptoRow.holds Tryd.pinned (OpenSpec.upto utflibBackSpec)

/-- 'trestlelaw17.UtflibCounts', WHERE WHAT IT READS IS OF BULK AT MOST 1048576: true; the input reads as it did. -/
def utflibCountsUptoRow : OpenClaim := { program := "ytlmmhlabacghnaadoor", sum := "0a53558b90a74c747fc3d944b3234d5543f9272359f2a8188ced2ece73c49078", func := "trestle/trestlelaw17.UtflibCounts", spec := "utflibCounts", inPlace := ["internal/abi.NoEscape"], unfollowed := true, recurses := true, named := ["unicode/utf8.first", "unicode/utf8.acceptRanges"], apart := false, laid := [("unicode/utf8.acceptRanges", laid_unicode_utf8_acceptRanges), ("unicode/utf8.first", laid_unicode_utf8_first)], narrowed := true }
def UtflibCountsUptoSaid : Prop := utflibCountsUptoRow.holds Tryd.pinned (OpenSpec.upto utflibCountsSpec)

/-- 'trestlelaw17.UtflibOne', WHERE WHAT IT READS IS OF BULK AT MOST 1048576: true; the input reads as it did. -/
def utflibOneUptoRow : OpenClaim := { program := "ytlmmhlabacghnaadoor", sum := "0a53558b90a74c747fc3d944b3234d5543f9272359f2a8188ced2ece73c49078", func := "trestle/trestlelaw17.UtflibOne", spec := "utflibOne", inPlace := ["internal/abi.NoEscape"], unfollowed := true, recurses := true, named := ["unicode/utf8.first", "unicode/utf8.acceptRanges"], apart := false, laid := [("unicode/utf8.acceptRanges", laid_unicode_utf8_acceptRanges), ("unicode/utf8.first", laid_unicode_utf8_first)], narrowed := true }
def UtflibOneUptoSaid : Prop := utflibOneUptoRow.holds Tryd.pinned (OpenSpec.upto utflibOneSpec)

/-- 'trestlelaw17.UtflibValid', WHERE WHAT IT READS IS OF BULK AT MOST 1048576: true; the input reads as it did. -/
def utflibValidUptoRow : OpenClaim := { program := "ytlmmhlabacghnaadoor", sum := "0a53558b90a74c747fc3d944b3234d5543f9272359f2a8188ced2ece73c49078", func := "trestle/trestlelaw17.UtflibValid", spec := "utflibValid", inPlace := ["internal/abi.NoEscape"], unfollowed := true, recurses := true, named := ["unicode/utf8.first", "unicode/utf8.acceptRanges"], apart := false, laid := [("unicode/utf8.acceptRanges", laid_unicode_utf8_acceptRanges), ("unicode/utf8.first", laid_unicode_utf8_first)], narrowed := true }
def UtflibValidUptoSaid : Prop := utflibValidUptoRow.holds Tryd.pinned (OpenSpec.upto utflibValidSpec)

end Rows
end Go.Proofs.YtlmmhlabacghnaaDoor
