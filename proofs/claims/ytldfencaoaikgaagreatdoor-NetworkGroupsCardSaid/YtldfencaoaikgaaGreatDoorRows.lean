/-
  NARROWER THAN 'FOR EVERY INPUT', by the rows' own cells (each row's printed sentence says how): NetworkChecks: laid · NetworkPoints: laid · NetworkReaches: laid · NetworkGroups: laid · NetworkFinds: laid · NetworkExits: laid · NetworkReverses: laid · NetworkNodes: laid · NetworkSame: laid · NetworkAhead: laid.
  DERIVED. THE GIVEN ROWS OF THIS SEAT. 10 by the template 'for every input the law returns true; each argument reads behind the call as it read before'; 0 by the template 'total and deterministic' (their statements: YtldfencaoaikgaaGreatDoorTotals.lean).
  GIVEN WITH THE SEED: the statements are not yours to turn. If you find one false, say at which input.
  Laid BY PROGRAM, IN A SANDBOX (cutbox-rows.mjs): the forced cells as the released guide's own fill.sh prints them over the translation d11da2afa5e43a47… (all of the seat's roots in one cut). By AI agents, Wed Nov 11 2026. No macro, syntax, notation, axiom, sorry.
-/
import Derived.Test.YtldfencaoaikgaaGreatDoorChecked
import GoSem.PinnedTables
import GoSem.Claim
import GoSem.ClaimJoined
import GoSem.ClaimMapViews
import Derived.JoinedTies
import Derived.KernelRfl
namespace Go.Proofs.YtldfencaoaikgaaGreatDoor
/- THE CELL 'sum', in the pinned program and in every row, IS THE sha256 OF THE DUMP (.gsa) THAT YtldfencaoaikgaaGreatDoorProg.lean LOADS. Nothing in Lean hashes anything: it is a label: what it is worth is what the hold of that sum in a sandbox is worth. -/
noncomputable def Tryz.pinned : Pinned := { name := "ytldfencaoaikgaagreatdoor", sum := "d11da2afa5e43a47e065a235b7ab52a3ca0b413cc273b31014e67bc11602a917", checked := Tryz.checked }
namespace Rows
def none {H : Type} : Left H := { results := [], args := [] }

/- WHAT THE LISTED PACKAGE-LEVEL VARIABLES READ AS WHEN THE CALL BEGINS. Each datum BY PROGRAM (the guide's laid-datum.mjs) off the statement by which the dump's own 'gosem.cut.vars' lays the variable. In a bare row this is a premise. The card (YtldfencaoaikgaaGreatDoorCards.lean) ties it to the program's text. -/
def laid_unicode_utf8_acceptRanges {H : Type} : DataW H := .agg [.agg [.lit (.int .u8 128), .lit (.int .u8 191)], .agg [.lit (.int .u8 160), .lit (.int .u8 191)], .agg [.lit (.int .u8 128), .lit (.int .u8 159)], .agg [.lit (.int .u8 144), .lit (.int .u8 191)], .agg [.lit (.int .u8 128), .lit (.int .u8 143)], .agg [.lit (.int .u8 0), .lit (.int .u8 0)], .agg [.lit (.int .u8 0), .lit (.int .u8 0)], .agg [.lit (.int .u8 0), .lit (.int .u8 0)], .agg [.lit (.int .u8 0), .lit (.int .u8 0)], .agg [.lit (.int .u8 0), .lit (.int .u8 0)], .agg [.lit (.int .u8 0), .lit (.int .u8 0)], .agg [.lit (.int .u8 0), .lit (.int .u8 0)], .agg [.lit (.int .u8 0), .lit (.int .u8 0)], .agg [.lit (.int .u8 0), .lit (.int .u8 0)], .agg [.lit (.int .u8 0), .lit (.int .u8 0)], .agg [.lit (.int .u8 0), .lit (.int .u8 0)]]
/-- One of Go's own tables, pinned by name: the form's constant. -/
def laid_unicode_utf8_first : DataW Unit := Go.Pinned.utf8First

/-- 'viatorlaw20.NetworkChecks': WHATEVER THE INPUT: true; the input reads as it did. -/
def networkChecksSpec : ChangeSpec := { name := "networkChecks", fn := fun _ => fun
  | [d1, d2] => { results := [.lit (.bool true)], args := [d1, d2] }
  | _ => none }
def networkChecksRow : OpenClaim := { program := "ytldfencaoaikgaagreatdoor", sum := "d11da2afa5e43a47e065a235b7ab52a3ca0b413cc273b31014e67bc11602a917", func := "viator/viatorlaw20.NetworkChecks", spec := "networkChecks", inPlace := ["internal/bytealg.abigen_runtime_cmpstring", "internal/bytealg.IndexByteString", "internal/bytealg.IndexString", "math/bits.Add64"], unfollowed := true, recurses := true, named := ["unicode/utf8.first", "unicode/utf8.acceptRanges", "internal/bytealg.MaxLen"], apart := false, laid := [("unicode/utf8.acceptRanges", laid_unicode_utf8_acceptRanges), ("unicode/utf8.first", laid_unicode_utf8_first)] }
def NetworkChecksSaid : Prop := networkChecksRow.holds Tryz.pinned (OpenSpec.ofChange networkChecksSpec)

/-- ITS FALSE NEIGHBOUR: 'it returns false'. Refute it at one input. -/
def networkChecksWrong : ChangeSpec := { name := "networkChecks", fn := fun _ => fun
  | [d1, d2] => { results := [.lit (.bool false)], args := [d1, d2] }
  | _ => none }
def NetworkChecksWrongFalsely : Prop := networkChecksRow.holds Tryz.pinned (OpenSpec.ofChange networkChecksWrong)

/-- 'viatorlaw20.NetworkPoints': WHATEVER THE INPUT: true; the input reads as it did. -/
def networkPointsSpec : ChangeSpec := { name := "networkPoints", fn := fun _ => fun
  | [d1, d2, d3] => { results := [.lit (.bool true)], args := [d1, d2, d3] }
  | _ => none }
def networkPointsRow : OpenClaim := { program := "ytldfencaoaikgaagreatdoor", sum := "d11da2afa5e43a47e065a235b7ab52a3ca0b413cc273b31014e67bc11602a917", func := "viator/viatorlaw20.NetworkPoints", spec := "networkPoints", inPlace := ["internal/bytealg.abigen_runtime_cmpstring", "internal/bytealg.IndexByteString", "internal/bytealg.IndexString", "math/bits.Add64"], unfollowed := true, recurses := true, named := ["unicode/utf8.first", "unicode/utf8.acceptRanges", "internal/bytealg.MaxLen"], apart := false, laid := [("unicode/utf8.acceptRanges", laid_unicode_utf8_acceptRanges), ("unicode/utf8.first", laid_unicode_utf8_first)] }
def NetworkPointsSaid : Prop := networkPointsRow.holds Tryz.pinned (OpenSpec.ofChange networkPointsSpec)

/-- ITS FALSE NEIGHBOUR: 'it returns false'. Refute it at one input. -/
def networkPointsWrong : ChangeSpec := { name := "networkPoints", fn := fun _ => fun
  | [d1, d2, d3] => { results := [.lit (.bool false)], args := [d1, d2, d3] }
  | _ => none }
def NetworkPointsWrongFalsely : Prop := networkPointsRow.holds Tryz.pinned (OpenSpec.ofChange networkPointsWrong)

/-- 'viatorlaw20.NetworkReaches': WHATEVER THE INPUT: true; the input reads as it did. -/
def networkReachesSpec : ChangeSpec := { name := "networkReaches", fn := fun _ => fun
  | [d1, d2] => { results := [.lit (.bool true)], args := [d1, d2] }
  | _ => none }
def networkReachesRow : OpenClaim := { program := "ytldfencaoaikgaagreatdoor", sum := "d11da2afa5e43a47e065a235b7ab52a3ca0b413cc273b31014e67bc11602a917", func := "viator/viatorlaw20.NetworkReaches", spec := "networkReaches", inPlace := ["internal/bytealg.abigen_runtime_cmpstring", "internal/bytealg.IndexByteString", "internal/bytealg.IndexString", "math/bits.Add64"], unfollowed := true, recurses := true, named := ["unicode/utf8.first", "unicode/utf8.acceptRanges", "internal/bytealg.MaxLen"], apart := false, laid := [("unicode/utf8.acceptRanges", laid_unicode_utf8_acceptRanges), ("unicode/utf8.first", laid_unicode_utf8_first)] }
def NetworkReachesSaid : Prop := networkReachesRow.holds Tryz.pinned (OpenSpec.ofChange networkReachesSpec)

/-- ITS FALSE NEIGHBOUR: 'it returns false'. Refute it at one input. -/
def networkReachesWrong : ChangeSpec := { name := "networkReaches", fn := fun _ => fun
  | [d1, d2] => { results := [.lit (.bool false)], args := [d1, d2] }
  | _ => none }
def NetworkReachesWrongFalsely : Prop := networkReachesRow.holds Tryz.pinned (OpenSpec.ofChange networkReachesWrong)

/-- 'viatorlaw20.NetworkGroups': WHATEVER THE INPUT: true; the input reads as it did. -/
def networkGroupsSpec : ChangeSpec := { name := "networkGroups", fn := fun _ => fun
  | [d] => { results := [.lit (.bool true)], args := [d] }
  | _ => none }
def networkGroupsRow : OpenClaim := { program := "ytldfencaoaikgaagreatdoor", sum := "d11da2afa5e43a47e065a235b7ab52a3ca0b413cc273b31014e67bc11602a917", func := "viator/viatorlaw20.NetworkGroups", spec := "networkGroups", inPlace := ["internal/bytealg.abigen_runtime_cmpstring", "internal/bytealg.IndexByteString", "internal/bytealg.IndexString", "math/bits.Add64"], unfollowed := true, recurses := true, named := ["unicode/utf8.first", "unicode/utf8.acceptRanges", "internal/bytealg.MaxLen"], apart := false, laid := [("unicode/utf8.acceptRanges", laid_unicode_utf8_acceptRanges), ("unicode/utf8.first", laid_unicode_utf8_first)] }
def NetworkGroupsSaid : Prop := networkGroupsRow.holds Tryz.pinned (OpenSpec.ofChange networkGroupsSpec)

/-- ITS FALSE NEIGHBOUR: 'it returns false'. Refute it at one input. -/
def networkGroupsWrong : ChangeSpec := { name := "networkGroups", fn := fun _ => fun
  | [d] => { results := [.lit (.bool false)], args := [d] }
  | _ => none }
def NetworkGroupsWrongFalsely : Prop := networkGroupsRow.holds Tryz.pinned (OpenSpec.ofChange networkGroupsWrong)

/-- 'viatorlaw20.NetworkFinds': WHATEVER THE INPUT: true; the input reads as it did. -/
def networkFindsSpec : ChangeSpec := { name := "networkFinds", fn := fun _ => fun
  | [d1, d2] => { results := [.lit (.bool true)], args := [d1, d2] }
  | _ => none }
def networkFindsRow : OpenClaim := { program := "ytldfencaoaikgaagreatdoor", sum := "d11da2afa5e43a47e065a235b7ab52a3ca0b413cc273b31014e67bc11602a917", func := "viator/viatorlaw20.NetworkFinds", spec := "networkFinds", inPlace := ["internal/bytealg.abigen_runtime_cmpstring", "internal/bytealg.IndexByteString", "internal/bytealg.IndexString", "math/bits.Add64"], unfollowed := true, recurses := true, named := ["unicode/utf8.first", "unicode/utf8.acceptRanges", "internal/bytealg.MaxLen"], apart := false, laid := [("unicode/utf8.acceptRanges", laid_unicode_utf8_acceptRanges), ("unicode/utf8.first", laid_unicode_utf8_first)] }
def NetworkFindsSaid : Prop := networkFindsRow.holds Tryz.pinned (OpenSpec.ofChange networkFindsSpec)

/-- ITS FALSE NEIGHBOUR: 'it returns false'. Refute it at one input. -/
def networkFindsWrong : ChangeSpec := { name := "networkFinds", fn := fun _ => fun
  | [d1, d2] => { results := [.lit (.bool false)], args := [d1, d2] }
  | _ => none }
def NetworkFindsWrongFalsely : Prop := networkFindsRow.holds Tryz.pinned (OpenSpec.ofChange networkFindsWrong)

/-- 'viatorlaw20.NetworkExits': WHATEVER THE INPUT: true; the input reads as it did. -/
def networkExitsSpec : ChangeSpec := { name := "networkExits", fn := fun _ => fun
  | [d1, d2] => { results := [.lit (.bool true)], args := [d1, d2] }
  | _ => none }
def networkExitsRow : OpenClaim := { program := "ytldfencaoaikgaagreatdoor", sum := "d11da2afa5e43a47e065a235b7ab52a3ca0b413cc273b31014e67bc11602a917", func := "viator/viatorlaw20.NetworkExits", spec := "networkExits", inPlace := ["internal/bytealg.abigen_runtime_cmpstring", "internal/bytealg.IndexByteString", "internal/bytealg.IndexString", "math/bits.Add64"], unfollowed := true, recurses := true, named := ["unicode/utf8.first", "unicode/utf8.acceptRanges", "internal/bytealg.MaxLen"], apart := false, laid := [("unicode/utf8.acceptRanges", laid_unicode_utf8_acceptRanges), ("unicode/utf8.first", laid_unicode_utf8_first)] }
def NetworkExitsSaid : Prop := networkExitsRow.holds Tryz.pinned (OpenSpec.ofChange networkExitsSpec)

/-- ITS FALSE NEIGHBOUR: 'it returns false'. Refute it at one input. -/
def networkExitsWrong : ChangeSpec := { name := "networkExits", fn := fun _ => fun
  | [d1, d2] => { results := [.lit (.bool false)], args := [d1, d2] }
  | _ => none }
def NetworkExitsWrongFalsely : Prop := networkExitsRow.holds Tryz.pinned (OpenSpec.ofChange networkExitsWrong)

/-- 'viatorlaw20.NetworkReverses': WHATEVER THE INPUT: true; the input reads as it did. -/
def networkReversesSpec : ChangeSpec := { name := "networkReverses", fn := fun _ => fun
  | [d1, d2] => { results := [.lit (.bool true)], args := [d1, d2] }
  | _ => none }
def networkReversesRow : OpenClaim := { program := "ytldfencaoaikgaagreatdoor", sum := "d11da2afa5e43a47e065a235b7ab52a3ca0b413cc273b31014e67bc11602a917", func := "viator/viatorlaw20.NetworkReverses", spec := "networkReverses", inPlace := ["internal/bytealg.abigen_runtime_cmpstring", "internal/bytealg.IndexByteString", "internal/bytealg.IndexString", "math/bits.Add64"], unfollowed := true, recurses := true, named := ["unicode/utf8.first", "unicode/utf8.acceptRanges", "internal/bytealg.MaxLen"], apart := false, laid := [("unicode/utf8.acceptRanges", laid_unicode_utf8_acceptRanges), ("unicode/utf8.first", laid_unicode_utf8_first)] }
def NetworkReversesSaid : Prop := networkReversesRow.holds Tryz.pinned (OpenSpec.ofChange networkReversesSpec)

/-- ITS FALSE NEIGHBOUR: 'it returns false'. Refute it at one input. -/
def networkReversesWrong : ChangeSpec := { name := "networkReverses", fn := fun _ => fun
  | [d1, d2] => { results := [.lit (.bool false)], args := [d1, d2] }
  | _ => none }
def NetworkReversesWrongFalsely : Prop := networkReversesRow.holds Tryz.pinned (OpenSpec.ofChange networkReversesWrong)

/-- 'viatorlaw20.NetworkNodes': WHATEVER THE INPUT: true; the input reads as it did. -/
def networkNodesSpec : ChangeSpec := { name := "networkNodes", fn := fun _ => fun
  | [d1, d2, d3] => { results := [.lit (.bool true)], args := [d1, d2, d3] }
  | _ => none }
def networkNodesRow : OpenClaim := { program := "ytldfencaoaikgaagreatdoor", sum := "d11da2afa5e43a47e065a235b7ab52a3ca0b413cc273b31014e67bc11602a917", func := "viator/viatorlaw20.NetworkNodes", spec := "networkNodes", inPlace := ["internal/bytealg.abigen_runtime_cmpstring", "internal/bytealg.IndexByteString", "internal/bytealg.IndexString", "math/bits.Add64"], unfollowed := true, recurses := true, named := ["unicode/utf8.first", "unicode/utf8.acceptRanges", "internal/bytealg.MaxLen"], apart := false, laid := [("unicode/utf8.acceptRanges", laid_unicode_utf8_acceptRanges), ("unicode/utf8.first", laid_unicode_utf8_first)] }
def NetworkNodesSaid : Prop := networkNodesRow.holds Tryz.pinned (OpenSpec.ofChange networkNodesSpec)

/-- ITS FALSE NEIGHBOUR: 'it returns false'. Refute it at one input. -/
def networkNodesWrong : ChangeSpec := { name := "networkNodes", fn := fun _ => fun
  | [d1, d2, d3] => { results := [.lit (.bool false)], args := [d1, d2, d3] }
  | _ => none }
def NetworkNodesWrongFalsely : Prop := networkNodesRow.holds Tryz.pinned (OpenSpec.ofChange networkNodesWrong)

/-- 'viatorlaw20.NetworkSame': WHATEVER THE INPUT: true; the input reads as it did. -/
def networkSameSpec : ChangeSpec := { name := "networkSame", fn := fun _ => fun
  | [d1, d2, d3] => { results := [.lit (.bool true)], args := [d1, d2, d3] }
  | _ => none }
def networkSameRow : OpenClaim := { program := "ytldfencaoaikgaagreatdoor", sum := "d11da2afa5e43a47e065a235b7ab52a3ca0b413cc273b31014e67bc11602a917", func := "viator/viatorlaw20.NetworkSame", spec := "networkSame", inPlace := ["internal/bytealg.abigen_runtime_cmpstring", "internal/bytealg.IndexByteString", "internal/bytealg.IndexString", "math/bits.Add64"], unfollowed := true, recurses := true, named := ["unicode/utf8.first", "unicode/utf8.acceptRanges", "internal/bytealg.MaxLen"], apart := false, laid := [("unicode/utf8.acceptRanges", laid_unicode_utf8_acceptRanges), ("unicode/utf8.first", laid_unicode_utf8_first)] }
def NetworkSameSaid : Prop := networkSameRow.holds Tryz.pinned (OpenSpec.ofChange networkSameSpec)

/-- ITS FALSE NEIGHBOUR: 'it returns false'. Refute it at one input. -/
def networkSameWrong : ChangeSpec := { name := "networkSame", fn := fun _ => fun
  | [d1, d2, d3] => { results := [.lit (.bool false)], args := [d1, d2, d3] }
  | _ => none }
def NetworkSameWrongFalsely : Prop := networkSameRow.holds Tryz.pinned (OpenSpec.ofChange networkSameWrong)

/-- 'viatorlaw20.NetworkAhead': WHATEVER THE INPUT: true; the input reads as it did. -/
def networkAheadSpec : ChangeSpec := { name := "networkAhead", fn := fun _ => fun
  | [d1, d2, d3] => { results := [.lit (.bool true)], args := [d1, d2, d3] }
  | _ => none }
def networkAheadRow : OpenClaim := { program := "ytldfencaoaikgaagreatdoor", sum := "d11da2afa5e43a47e065a235b7ab52a3ca0b413cc273b31014e67bc11602a917", func := "viator/viatorlaw20.NetworkAhead", spec := "networkAhead", inPlace := ["internal/bytealg.abigen_runtime_cmpstring", "internal/bytealg.IndexByteString", "internal/bytealg.IndexString", "math/bits.Add64"], unfollowed := true, recurses := true, named := ["unicode/utf8.first", "unicode/utf8.acceptRanges", "internal/bytealg.MaxLen"], apart := false, laid := [("unicode/utf8.acceptRanges", laid_unicode_utf8_acceptRanges), ("unicode/utf8.first", laid_unicode_utf8_first)] }
def NetworkAheadSaid : Prop := networkAheadRow.holds Tryz.pinned (OpenSpec.ofChange networkAheadSpec)

/-- ITS FALSE NEIGHBOUR: 'it returns false'. Refute it at one input. -/
def networkAheadWrong : ChangeSpec := { name := "networkAhead", fn := fun _ => fun
  | [d1, d2, d3] => { results := [.lit (.bool false)], args := [d1, d2, d3] }
  | _ => none }
def NetworkAheadWrongFalsely : Prop := networkAheadRow.holds Tryz.pinned (OpenSpec.ofChange networkAheadWrong)

/- THE SECOND FORM. 'bulk': how many values and letters a reading holds, each counted each time it is reached (what is shared counts as often as it is met; a slice's spare places count too). A statement '..UptoSaid' is the law's where the arguments, and the package variables that the reading takes, are together of bulk at most 1048576: NARROWER than '..Said'. Prove '..Said' where nothing that the law and all that it calls make is longer than what came in: it says more and counts as full. Else prove '..UptoSaid'. A law counts once. -/
mutual
def uptoBulk {H : Type} : DataW H → Nat
  | .lit (.string bytes) => bytes.length + 1
  | .lit _ => 1
  | .nil => 1
  | .ptr d => uptoBulk d + 1
  | .slice elems spare => uptoBulkAll elems + uptoBulkAll spare + 1
  | .agg parts => uptoBulkAll parts + 1
  | .iface _ d => uptoBulk d + 1
  | .map entries => uptoBulkEntries entries + 1
  | .held _ => 1
def uptoBulkAll {H : Type} : List (DataW H) → Nat
  | [] => 0
  | d :: r => uptoBulk d + uptoBulkAll r
def uptoBulkEntries {H : Type} : List (Lit × DataW H) → Nat
  | [] => 0
  | x :: r => uptoBulkEntry x + uptoBulkEntries r
def uptoBulkEntry {H : Type} : Lit × DataW H → Nat
  | (.string bytes, d) => bytes.length + uptoBulk d + 1
  | (_, d) => uptoBulk d + 1
 end
def uptoSmall : (H : Type) → List (DataW H) → Bool := fun _ ds => decide (uptoBulkAll ds ≤ 1048576)
def OpenSpec.upto (s : _root_.Go.ChangeSpec) : _root_.Go.OpenSpec := { _root_.Go.OpenSpec.ofChange s with cond := some uptoSmall }

/-- 'viatorlaw20.NetworkChecks', WHERE WHAT IT READS IS OF BULK AT MOST 1048576: true; the input reads as it did. -/
def networkChecksUptoRow : OpenClaim := { program := "ytldfencaoaikgaagreatdoor", sum := "d11da2afa5e43a47e065a235b7ab52a3ca0b413cc273b31014e67bc11602a917", func := "viator/viatorlaw20.NetworkChecks", spec := "networkChecks", inPlace := ["internal/bytealg.abigen_runtime_cmpstring", "internal/bytealg.IndexByteString", "internal/bytealg.IndexString", "math/bits.Add64"], unfollowed := true, recurses := true, named := ["unicode/utf8.first", "unicode/utf8.acceptRanges", "internal/bytealg.MaxLen"], apart := false, laid := [("unicode/utf8.acceptRanges", laid_unicode_utf8_acceptRanges), ("unicode/utf8.first", laid_unicode_utf8_first)], narrowed := true }
def NetworkChecksUptoSaid : Prop := networkChecksUptoRow.holds Tryz.pinned (OpenSpec.upto networkChecksSpec)

/-- 'viatorlaw20.NetworkPoints', WHERE WHAT IT READS IS OF BULK AT MOST 1048576: true; the input reads as it did. -/
def networkPointsUptoRow : OpenClaim := { program := "ytldfencaoaikgaagreatdoor", sum := "d11da2afa5e43a47e065a235b7ab52a3ca0b413cc273b31014e67bc11602a917", func := "viator/viatorlaw20.NetworkPoints", spec := "networkPoints", inPlace := ["internal/bytealg.abigen_runtime_cmpstring", "internal/bytealg.IndexByteString", "internal/bytealg.IndexString", "math/bits.Add64"], unfollowed := true, recurses := true, named := ["unicode/utf8.first", "unicode/utf8.acceptRanges", "internal/bytealg.MaxLen"], apart := false, laid := [("unicode/utf8.acceptRanges", laid_unicode_utf8_acceptRanges), ("unicode/utf8.first", laid_unicode_utf8_first)], narrowed := true }
def NetworkPointsUptoSaid : Prop := networkPointsUptoRow.holds Tryz.pinned (OpenSpec.upto networkPointsSpec)

/-- 'viatorlaw20.NetworkReaches', WHERE WHAT IT READS IS OF BULK AT MOST 1048576: true; the input reads as it did. -/
def networkReachesUptoRow : OpenClaim := { program := "ytldfencaoaikgaagreatdoor", sum := "d11da2afa5e43a47e065a235b7ab52a3ca0b413cc273b31014e67bc11602a917", func := "viator/viatorlaw20.NetworkReaches", spec := "networkReaches", inPlace := ["internal/bytealg.abigen_runtime_cmpstring", "internal/bytealg.IndexByteString", "internal/bytealg.IndexString", "math/bits.Add64"], unfollowed := true, recurses := true, named := ["unicode/utf8.first", "unicode/utf8.acceptRanges", "internal/bytealg.MaxLen"], apart := false, laid := [("unicode/utf8.acceptRanges", laid_unicode_utf8_acceptRanges), ("unicode/utf8.first", laid_unicode_utf8_first)], narrowed := true }
def NetworkReachesUptoSaid : Prop := networkReachesUptoRow.holds Tryz.pinned (OpenSpec.upto networkReachesSpec)

/-- 'viatorlaw20.NetworkGroups', WHERE WHAT IT READS IS OF BULK AT MOST 1048576: true; the input reads as it did. -/
def networkGroupsUptoRow : OpenClaim := { program := "ytldfencaoaikgaagreatdoor", sum := "d11da2afa5e43a47e065a235b7ab52a3ca0b413cc273b31014e67bc11602a917", func := "viator/viatorlaw20.NetworkGroups", spec := "networkGroups", inPlace := ["internal/bytealg.abigen_runtime_cmpstring", "internal/bytealg.IndexByteString", "internal/bytealg.IndexString", "math/bits.Add64"], unfollowed := true, recurses := true, named := ["unicode/utf8.first", "unicode/utf8.acceptRanges", "internal/bytealg.MaxLen"], apart := false, laid := [("unicode/utf8.acceptRanges", laid_unicode_utf8_acceptRanges), ("unicode/utf8.first", laid_unicode_utf8_first)], narrowed := true }
def NetworkGroupsUptoSaid : Prop := networkGroupsUptoRow.holds Tryz.pinned (OpenSpec.upto networkGroupsSpec)

/-- 'viatorlaw20.NetworkFinds', WHERE WHAT IT READS IS OF BULK AT MOST 1048576: true; the input reads as it did. -/
def networkFindsUptoRow : OpenClaim := { program := "ytldfencaoaikgaagreatdoor", sum := "d11da2afa5e43a47e065a235b7ab52a3ca0b413cc273b31014e67bc11602a917", func := "viator/viatorlaw20.NetworkFinds", spec := "networkFinds", inPlace := ["internal/bytealg.abigen_runtime_cmpstring", "internal/bytealg.IndexByteString", "internal/bytealg.IndexString", "math/bits.Add64"], unfollowed := true, recurses := true, named := ["unicode/utf8.first", "unicode/utf8.acceptRanges", "internal/bytealg.MaxLen"], apart := false, laid := [("unicode/utf8.acceptRanges", laid_unicode_utf8_acceptRanges), ("unicode/utf8.first", laid_unicode_utf8_first)], narrowed := true }
def NetworkFindsUptoSaid : Prop := networkFindsUptoRow.holds Tryz.pinned (OpenSpec.upto networkFindsSpec)

/-- 'viatorlaw20.NetworkExits', WHERE WHAT IT READS IS OF BULK AT MOST 1048576: true; the input reads as it did. -/
def networkExitsUptoRow : OpenClaim := { program := "ytldfencaoaikgaagreatdoor", sum := "d11da2afa5e43a47e065a235b7ab52a3ca0b413cc273b31014e67bc11602a917", func := "viator/viatorlaw20.NetworkExits", spec := "networkExits", inPlace := ["internal/bytealg.abigen_runtime_cmpstring", "internal/bytealg.IndexByteString", "internal/bytealg.IndexString", "math/bits.Add64"], unfollowed := true, recurses := true, named := ["unicode/utf8.first", "unicode/utf8.acceptRanges", "internal/bytealg.MaxLen"], apart := false, laid := [("unicode/utf8.acceptRanges", laid_unicode_utf8_acceptRanges), ("unicode/utf8.first", laid_unicode_utf8_first)], narrowed := true }
def NetworkExitsUptoSaid : Prop := networkExitsUptoRow.holds Tryz.pinned (OpenSpec.upto networkExitsSpec)

/-- 'viatorlaw20.NetworkReverses', WHERE WHAT IT READS IS OF BULK AT MOST 1048576: true; the input reads as it did. -/
def networkReversesUptoRow : OpenClaim := { program := "ytldfencaoaikgaagreatdoor", sum := "d11da2afa5e43a47e065a235b7ab52a3ca0b413cc273b31014e67bc11602a917", func := "viator/viatorlaw20.NetworkReverses", spec := "networkReverses", inPlace := ["internal/bytealg.abigen_runtime_cmpstring", "internal/bytealg.IndexByteString", "internal/bytealg.IndexString", "math/bits.Add64"], unfollowed := true, recurses := true, named := ["unicode/utf8.first", "unicode/utf8.acceptRanges", "internal/bytealg.MaxLen"], apart := false, laid := [("unicode/utf8.acceptRanges", laid_unicode_utf8_acceptRanges), ("unicode/utf8.first", laid_unicode_utf8_first)], narrowed := true }
def NetworkReversesUptoSaid : Prop := networkReversesUptoRow.holds Tryz.pinned (OpenSpec.upto networkReversesSpec)

/-- 'viatorlaw20.NetworkNodes', WHERE WHAT IT READS IS OF BULK AT MOST 1048576: true; the input reads as it did. -/
def networkNodesUptoRow : OpenClaim := { program := "ytldfencaoaikgaagreatdoor", sum := "d11da2afa5e43a47e065a235b7ab52a3ca0b413cc273b31014e67bc11602a917", func := "viator/viatorlaw20.NetworkNodes", spec := "networkNodes", inPlace := ["internal/bytealg.abigen_runtime_cmpstring", "internal/bytealg.IndexByteString", "internal/bytealg.IndexString", "math/bits.Add64"], unfollowed := true, recurses := true, named := ["unicode/utf8.first", "unicode/utf8.acceptRanges", "internal/bytealg.MaxLen"], apart := false, laid := [("unicode/utf8.acceptRanges", laid_unicode_utf8_acceptRanges), ("unicode/utf8.first", laid_unicode_utf8_first)], narrowed := true }
def NetworkNodesUptoSaid : Prop := networkNodesUptoRow.holds Tryz.pinned (OpenSpec.upto networkNodesSpec)

/-- 'viatorlaw20.NetworkSame', WHERE WHAT IT READS IS OF BULK AT MOST 1048576: true; the input reads as it did. -/
def networkSameUptoRow : OpenClaim := { program := "ytldfencaoaikgaagreatdoor", sum := "d11da2afa5e43a47e065a235b7ab52a3ca0b413cc273b31014e67bc11602a917", func := "viator/viatorlaw20.NetworkSame", spec := "networkSame", inPlace := ["internal/bytealg.abigen_runtime_cmpstring", "internal/bytealg.IndexByteString", "internal/bytealg.IndexString", "math/bits.Add64"], unfollowed := true, recurses := true, named := ["unicode/utf8.first", "unicode/utf8.acceptRanges", "internal/bytealg.MaxLen"], apart := false, laid := [("unicode/utf8.acceptRanges", laid_unicode_utf8_acceptRanges), ("unicode/utf8.first", laid_unicode_utf8_first)], narrowed := true }
def NetworkSameUptoSaid : Prop := networkSameUptoRow.holds Tryz.pinned (OpenSpec.upto networkSameSpec)

/-- 'viatorlaw20.NetworkAhead', WHERE WHAT IT READS IS OF BULK AT MOST 1048576: true; the input reads as it did. -/
def networkAheadUptoRow : OpenClaim := { program := "ytldfencaoaikgaagreatdoor", sum := "d11da2afa5e43a47e065a235b7ab52a3ca0b413cc273b31014e67bc11602a917", func := "viator/viatorlaw20.NetworkAhead", spec := "networkAhead", inPlace := ["internal/bytealg.abigen_runtime_cmpstring", "internal/bytealg.IndexByteString", "internal/bytealg.IndexString", "math/bits.Add64"], unfollowed := true, recurses := true, named := ["unicode/utf8.first", "unicode/utf8.acceptRanges", "internal/bytealg.MaxLen"], apart := false, laid := [("unicode/utf8.acceptRanges", laid_unicode_utf8_acceptRanges), ("unicode/utf8.first", laid_unicode_utf8_first)], narrowed := true }
def NetworkAheadUptoSaid : Prop := networkAheadUptoRow.holds Tryz.pinned (OpenSpec.upto networkAheadSpec)

end Rows
end Go.Proofs.YtldfencaoaikgaaGreatDoor
