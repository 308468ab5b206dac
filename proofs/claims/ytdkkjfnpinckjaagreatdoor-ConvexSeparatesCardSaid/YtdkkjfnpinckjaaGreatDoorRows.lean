/-
  NARROWER THAN 'FOR EVERY INPUT', by the rows' own cells (each row's printed sentence says how): ConvexContains: laid · ConvexCertifies: laid · ConvexSums: laid · ConvexSupports: laid · ConvexCuts: laid · ConvexDisks: laid · ConvexChecks: laid · ConvexGrows: laid · ConvexHulls: laid · ConvexIntersects: laid · ConvexMeets: laid · ConvexSeparates: laid.
  DERIVED. THE GIVEN ROWS OF THIS SEAT. 12 by the template 'for every input the law returns true; each argument reads behind the call as it read before'; 0 by the template 'total and deterministic' (their statements: YtdkkjfnpinckjaaGreatDoorTotals.lean).
  GIVEN WITH THE SEED: the statements are not yours to turn. If you find one false, say at which input.
  Laid BY PROGRAM, IN A SANDBOX (cutbox-rows.mjs): the forced cells as the released guide's own fill.sh prints them over the translation eb77664b3b46dab7… (all of the seat's roots in one cut). By AI agents, Wed Nov 11 2026. No macro, syntax, notation, axiom, sorry.
-/
import Derived.Test.YtdkkjfnpinckjaaGreatDoorChecked
import GoSem.PinnedTables
import GoSem.Claim
import GoSem.ClaimJoined
import GoSem.ClaimMapViews
import Derived.JoinedTies
import Derived.KernelRfl
namespace Go.Proofs.YtdkkjfnpinckjaaGreatDoor
/- THE CELL 'sum', in the pinned program and in every row, IS THE sha256 OF THE DUMP (.gsa) THAT YtdkkjfnpinckjaaGreatDoorProg.lean LOADS. Nothing in Lean hashes anything: it is a label: what it is worth is what the hold of that sum in a sandbox is worth. -/
noncomputable def Tryz.pinned : Pinned := { name := "ytdkkjfnpinckjaagreatdoor", sum := "eb77664b3b46dab7d6da213b43fbed309e7c84e1571744da7dd0860ce0bda778", checked := Tryz.checked }
namespace Rows
def none {H : Type} : Left H := { results := [], args := [] }

/- WHAT THE LISTED PACKAGE-LEVEL VARIABLES READ AS WHEN THE CALL BEGINS. Each datum BY PROGRAM (the guide's laid-datum.mjs) off the statement by which the dump's own 'gosem.cut.vars' lays the variable. In a bare row this is a premise. The card (YtdkkjfnpinckjaaGreatDoorCards.lean) ties it to the program's text. -/
def laid_unicode_utf8_acceptRanges {H : Type} : DataW H := .agg [.agg [.lit (.int .u8 128), .lit (.int .u8 191)], .agg [.lit (.int .u8 160), .lit (.int .u8 191)], .agg [.lit (.int .u8 128), .lit (.int .u8 159)], .agg [.lit (.int .u8 144), .lit (.int .u8 191)], .agg [.lit (.int .u8 128), .lit (.int .u8 143)], .agg [.lit (.int .u8 0), .lit (.int .u8 0)], .agg [.lit (.int .u8 0), .lit (.int .u8 0)], .agg [.lit (.int .u8 0), .lit (.int .u8 0)], .agg [.lit (.int .u8 0), .lit (.int .u8 0)], .agg [.lit (.int .u8 0), .lit (.int .u8 0)], .agg [.lit (.int .u8 0), .lit (.int .u8 0)], .agg [.lit (.int .u8 0), .lit (.int .u8 0)], .agg [.lit (.int .u8 0), .lit (.int .u8 0)], .agg [.lit (.int .u8 0), .lit (.int .u8 0)], .agg [.lit (.int .u8 0), .lit (.int .u8 0)], .agg [.lit (.int .u8 0), .lit (.int .u8 0)]]
/-- One of Go's own tables, pinned by name: the form's constant. -/
def laid_unicode_utf8_first : DataW Unit := Go.Pinned.utf8First

/-- 'viatorlaw09.ConvexContains': WHATEVER THE INPUT: true; the input reads as it did. -/
def convexContainsSpec : ChangeSpec := { name := "convexContains", fn := fun _ => fun
  | [d1, d2] => { results := [.lit (.bool true)], args := [d1, d2] }
  | _ => none }
def convexContainsRow : OpenClaim := { program := "ytdkkjfnpinckjaagreatdoor", sum := "eb77664b3b46dab7d6da213b43fbed309e7c84e1571744da7dd0860ce0bda778", func := "viator/viatorlaw09.ConvexContains", spec := "convexContains", inPlace := ["internal/bytealg.IndexByteString", "internal/bytealg.IndexString", "math/bits.Add64", "internal/bytealg.abigen_runtime_cmpstring"], unfollowed := true, recurses := true, named := ["unicode/utf8.first", "unicode/utf8.acceptRanges", "internal/bytealg.MaxLen"], apart := false, laid := [("unicode/utf8.acceptRanges", laid_unicode_utf8_acceptRanges), ("unicode/utf8.first", laid_unicode_utf8_first)] }
def ConvexContainsSaid : Prop := convexContainsRow.holds Tryz.pinned (OpenSpec.ofChange convexContainsSpec)

/-- ITS FALSE NEIGHBOUR: 'it returns false'. Refute it at one input. -/
def convexContainsWrong : ChangeSpec := { name := "convexContains", fn := fun _ => fun
  | [d1, d2] => { results := [.lit (.bool false)], args := [d1, d2] }
  | _ => none }
def ConvexContainsWrongFalsely : Prop := convexContainsRow.holds Tryz.pinned (OpenSpec.ofChange convexContainsWrong)

/-- 'viatorlaw09.ConvexCertifies': WHATEVER THE INPUT: true; the input reads as it did. -/
def convexCertifiesSpec : ChangeSpec := { name := "convexCertifies", fn := fun _ => fun
  | [d1, d2, d3] => { results := [.lit (.bool true)], args := [d1, d2, d3] }
  | _ => none }
def convexCertifiesRow : OpenClaim := { program := "ytdkkjfnpinckjaagreatdoor", sum := "eb77664b3b46dab7d6da213b43fbed309e7c84e1571744da7dd0860ce0bda778", func := "viator/viatorlaw09.ConvexCertifies", spec := "convexCertifies", inPlace := ["internal/bytealg.IndexByteString", "internal/bytealg.IndexString", "math/bits.Add64", "internal/bytealg.abigen_runtime_cmpstring"], unfollowed := true, recurses := true, named := ["unicode/utf8.first", "unicode/utf8.acceptRanges", "internal/bytealg.MaxLen"], apart := false, laid := [("unicode/utf8.acceptRanges", laid_unicode_utf8_acceptRanges), ("unicode/utf8.first", laid_unicode_utf8_first)] }
def ConvexCertifiesSaid : Prop := convexCertifiesRow.holds Tryz.pinned (OpenSpec.ofChange convexCertifiesSpec)

/-- ITS FALSE NEIGHBOUR: 'it returns false'. Refute it at one input. -/
def convexCertifiesWrong : ChangeSpec := { name := "convexCertifies", fn := fun _ => fun
  | [d1, d2, d3] => { results := [.lit (.bool false)], args := [d1, d2, d3] }
  | _ => none }
def ConvexCertifiesWrongFalsely : Prop := convexCertifiesRow.holds Tryz.pinned (OpenSpec.ofChange convexCertifiesWrong)

/-- 'viatorlaw09.ConvexSums': WHATEVER THE INPUT: true; the input reads as it did. -/
def convexSumsSpec : ChangeSpec := { name := "convexSums", fn := fun _ => fun
  | [d1, d2, d3] => { results := [.lit (.bool true)], args := [d1, d2, d3] }
  | _ => none }
def convexSumsRow : OpenClaim := { program := "ytdkkjfnpinckjaagreatdoor", sum := "eb77664b3b46dab7d6da213b43fbed309e7c84e1571744da7dd0860ce0bda778", func := "viator/viatorlaw09.ConvexSums", spec := "convexSums", inPlace := ["internal/bytealg.IndexByteString", "internal/bytealg.IndexString", "math/bits.Add64", "internal/bytealg.abigen_runtime_cmpstring"], unfollowed := true, recurses := true, named := ["unicode/utf8.first", "unicode/utf8.acceptRanges", "internal/bytealg.MaxLen"], apart := false, laid := [("unicode/utf8.acceptRanges", laid_unicode_utf8_acceptRanges), ("unicode/utf8.first", laid_unicode_utf8_first)] }
def ConvexSumsSaid : Prop := convexSumsRow.holds Tryz.pinned (OpenSpec.ofChange convexSumsSpec)

/-- ITS FALSE NEIGHBOUR: 'it returns false'. Refute it at one input. -/
def convexSumsWrong : ChangeSpec := { name := "convexSums", fn := fun _ => fun
  | [d1, d2, d3] => { results := [.lit (.bool false)], args := [d1, d2, d3] }
  | _ => none }
def ConvexSumsWrongFalsely : Prop := convexSumsRow.holds Tryz.pinned (OpenSpec.ofChange convexSumsWrong)

/-- 'viatorlaw09.ConvexSupports': WHATEVER THE INPUT: true; the input reads as it did. -/
def convexSupportsSpec : ChangeSpec := { name := "convexSupports", fn := fun _ => fun
  | [d1, d2] => { results := [.lit (.bool true)], args := [d1, d2] }
  | _ => none }
def convexSupportsRow : OpenClaim := { program := "ytdkkjfnpinckjaagreatdoor", sum := "eb77664b3b46dab7d6da213b43fbed309e7c84e1571744da7dd0860ce0bda778", func := "viator/viatorlaw09.ConvexSupports", spec := "convexSupports", inPlace := ["internal/bytealg.IndexByteString", "internal/bytealg.IndexString", "internal/bytealg.abigen_runtime_cmpstring", "math/bits.Add64"], unfollowed := true, recurses := true, named := ["unicode/utf8.first", "unicode/utf8.acceptRanges", "internal/bytealg.MaxLen"], apart := false, laid := [("unicode/utf8.acceptRanges", laid_unicode_utf8_acceptRanges), ("unicode/utf8.first", laid_unicode_utf8_first)] }
def ConvexSupportsSaid : Prop := convexSupportsRow.holds Tryz.pinned (OpenSpec.ofChange convexSupportsSpec)

/-- ITS FALSE NEIGHBOUR: 'it returns false'. Refute it at one input. -/
def convexSupportsWrong : ChangeSpec := { name := "convexSupports", fn := fun _ => fun
  | [d1, d2] => { results := [.lit (.bool false)], args := [d1, d2] }
  | _ => none }
def ConvexSupportsWrongFalsely : Prop := convexSupportsRow.holds Tryz.pinned (OpenSpec.ofChange convexSupportsWrong)

/-- 'viatorlaw09.ConvexCuts': WHATEVER THE INPUT: true; the input reads as it did. -/
def convexCutsSpec : ChangeSpec := { name := "convexCuts", fn := fun _ => fun
  | [d1, d2, d3] => { results := [.lit (.bool true)], args := [d1, d2, d3] }
  | _ => none }
def convexCutsRow : OpenClaim := { program := "ytdkkjfnpinckjaagreatdoor", sum := "eb77664b3b46dab7d6da213b43fbed309e7c84e1571744da7dd0860ce0bda778", func := "viator/viatorlaw09.ConvexCuts", spec := "convexCuts", inPlace := ["internal/bytealg.IndexByteString", "internal/bytealg.IndexString", "math/bits.Add64", "internal/bytealg.abigen_runtime_cmpstring"], unfollowed := true, recurses := true, named := ["unicode/utf8.first", "unicode/utf8.acceptRanges", "internal/bytealg.MaxLen"], apart := false, laid := [("unicode/utf8.acceptRanges", laid_unicode_utf8_acceptRanges), ("unicode/utf8.first", laid_unicode_utf8_first)] }
def ConvexCutsSaid : Prop := convexCutsRow.holds Tryz.pinned (OpenSpec.ofChange convexCutsSpec)

/-- ITS FALSE NEIGHBOUR: 'it returns false'. Refute it at one input. -/
def convexCutsWrong : ChangeSpec := { name := "convexCuts", fn := fun _ => fun
  | [d1, d2, d3] => { results := [.lit (.bool false)], args := [d1, d2, d3] }
  | _ => none }
def ConvexCutsWrongFalsely : Prop := convexCutsRow.holds Tryz.pinned (OpenSpec.ofChange convexCutsWrong)

/-- 'viatorlaw09.ConvexDisks': WHATEVER THE INPUT: true; the input reads as it did. -/
def convexDisksSpec : ChangeSpec := { name := "convexDisks", fn := fun _ => fun
  | [d] => { results := [.lit (.bool true)], args := [d] }
  | _ => none }
def convexDisksRow : OpenClaim := { program := "ytdkkjfnpinckjaagreatdoor", sum := "eb77664b3b46dab7d6da213b43fbed309e7c84e1571744da7dd0860ce0bda778", func := "viator/viatorlaw09.ConvexDisks", spec := "convexDisks", inPlace := ["internal/bytealg.abigen_runtime_cmpstring", "internal/bytealg.IndexByteString", "internal/bytealg.IndexString", "math/bits.Add64"], unfollowed := true, recurses := true, named := ["unicode/utf8.first", "unicode/utf8.acceptRanges", "internal/bytealg.MaxLen"], apart := false, laid := [("unicode/utf8.acceptRanges", laid_unicode_utf8_acceptRanges), ("unicode/utf8.first", laid_unicode_utf8_first)] }
def ConvexDisksSaid : Prop := convexDisksRow.holds Tryz.pinned (OpenSpec.ofChange convexDisksSpec)

/-- ITS FALSE NEIGHBOUR: 'it returns false'. Refute it at one input. -/
def convexDisksWrong : ChangeSpec := { name := "convexDisks", fn := fun _ => fun
  | [d] => { results := [.lit (.bool false)], args := [d] }
  | _ => none }
def ConvexDisksWrongFalsely : Prop := convexDisksRow.holds Tryz.pinned (OpenSpec.ofChange convexDisksWrong)

/-- 'viatorlaw09.ConvexChecks': WHATEVER THE INPUT: true; the input reads as it did. -/
def convexChecksSpec : ChangeSpec := { name := "convexChecks", fn := fun _ => fun
  | [d1, d2] => { results := [.lit (.bool true)], args := [d1, d2] }
  | _ => none }
def convexChecksRow : OpenClaim := { program := "ytdkkjfnpinckjaagreatdoor", sum := "eb77664b3b46dab7d6da213b43fbed309e7c84e1571744da7dd0860ce0bda778", func := "viator/viatorlaw09.ConvexChecks", spec := "convexChecks", inPlace := ["internal/bytealg.IndexByteString", "internal/bytealg.IndexString", "math/bits.Add64", "internal/bytealg.abigen_runtime_cmpstring"], unfollowed := true, recurses := true, named := ["unicode/utf8.first", "unicode/utf8.acceptRanges", "internal/bytealg.MaxLen"], apart := false, laid := [("unicode/utf8.acceptRanges", laid_unicode_utf8_acceptRanges), ("unicode/utf8.first", laid_unicode_utf8_first)] }
def ConvexChecksSaid : Prop := convexChecksRow.holds Tryz.pinned (OpenSpec.ofChange convexChecksSpec)

/-- ITS FALSE NEIGHBOUR: 'it returns false'. Refute it at one input. -/
def convexChecksWrong : ChangeSpec := { name := "convexChecks", fn := fun _ => fun
  | [d1, d2] => { results := [.lit (.bool false)], args := [d1, d2] }
  | _ => none }
def ConvexChecksWrongFalsely : Prop := convexChecksRow.holds Tryz.pinned (OpenSpec.ofChange convexChecksWrong)

/-- 'viatorlaw09.ConvexGrows': WHATEVER THE INPUT: true; the input reads as it did. -/
def convexGrowsSpec : ChangeSpec := { name := "convexGrows", fn := fun _ => fun
  | [d1, d2, d3] => { results := [.lit (.bool true)], args := [d1, d2, d3] }
  | _ => none }
def convexGrowsRow : OpenClaim := { program := "ytdkkjfnpinckjaagreatdoor", sum := "eb77664b3b46dab7d6da213b43fbed309e7c84e1571744da7dd0860ce0bda778", func := "viator/viatorlaw09.ConvexGrows", spec := "convexGrows", inPlace := ["internal/bytealg.abigen_runtime_cmpstring", "internal/bytealg.IndexByteString", "internal/bytealg.IndexString", "math/bits.Add64"], unfollowed := true, recurses := true, named := ["unicode/utf8.first", "unicode/utf8.acceptRanges", "internal/bytealg.MaxLen"], apart := false, laid := [("unicode/utf8.acceptRanges", laid_unicode_utf8_acceptRanges), ("unicode/utf8.first", laid_unicode_utf8_first)] }
def ConvexGrowsSaid : Prop := convexGrowsRow.holds Tryz.pinned (OpenSpec.ofChange convexGrowsSpec)

/-- ITS FALSE NEIGHBOUR: 'it returns false'. Refute it at one input. -/
def convexGrowsWrong : ChangeSpec := { name := "convexGrows", fn := fun _ => fun
  | [d1, d2, d3] => { results := [.lit (.bool false)], args := [d1, d2, d3] }
  | _ => none }
def ConvexGrowsWrongFalsely : Prop := convexGrowsRow.holds Tryz.pinned (OpenSpec.ofChange convexGrowsWrong)

/-- 'viatorlaw09.ConvexHulls': WHATEVER THE INPUT: true; the input reads as it did. -/
def convexHullsSpec : ChangeSpec := { name := "convexHulls", fn := fun _ => fun
  | [d] => { results := [.lit (.bool true)], args := [d] }
  | _ => none }
def convexHullsRow : OpenClaim := { program := "ytdkkjfnpinckjaagreatdoor", sum := "eb77664b3b46dab7d6da213b43fbed309e7c84e1571744da7dd0860ce0bda778", func := "viator/viatorlaw09.ConvexHulls", spec := "convexHulls", inPlace := ["internal/bytealg.IndexByteString", "internal/bytealg.IndexString", "internal/bytealg.abigen_runtime_cmpstring", "math/bits.Add64"], unfollowed := true, recurses := true, named := ["unicode/utf8.first", "unicode/utf8.acceptRanges", "internal/bytealg.MaxLen"], apart := false, laid := [("unicode/utf8.acceptRanges", laid_unicode_utf8_acceptRanges), ("unicode/utf8.first", laid_unicode_utf8_first)] }
def ConvexHullsSaid : Prop := convexHullsRow.holds Tryz.pinned (OpenSpec.ofChange convexHullsSpec)

/-- ITS FALSE NEIGHBOUR: 'it returns false'. Refute it at one input. -/
def convexHullsWrong : ChangeSpec := { name := "convexHulls", fn := fun _ => fun
  | [d] => { results := [.lit (.bool false)], args := [d] }
  | _ => none }
def ConvexHullsWrongFalsely : Prop := convexHullsRow.holds Tryz.pinned (OpenSpec.ofChange convexHullsWrong)

/-- 'viatorlaw09.ConvexIntersects': WHATEVER THE INPUT: true; the input reads as it did. -/
def convexIntersectsSpec : ChangeSpec := { name := "convexIntersects", fn := fun _ => fun
  | [d1, d2, d3] => { results := [.lit (.bool true)], args := [d1, d2, d3] }
  | _ => none }
def convexIntersectsRow : OpenClaim := { program := "ytdkkjfnpinckjaagreatdoor", sum := "eb77664b3b46dab7d6da213b43fbed309e7c84e1571744da7dd0860ce0bda778", func := "viator/viatorlaw09.ConvexIntersects", spec := "convexIntersects", inPlace := ["internal/bytealg.IndexByteString", "internal/bytealg.IndexString", "math/bits.Add64", "internal/bytealg.abigen_runtime_cmpstring"], unfollowed := true, recurses := true, named := ["unicode/utf8.first", "unicode/utf8.acceptRanges", "internal/bytealg.MaxLen"], apart := false, laid := [("unicode/utf8.acceptRanges", laid_unicode_utf8_acceptRanges), ("unicode/utf8.first", laid_unicode_utf8_first)] }
def ConvexIntersectsSaid : Prop := convexIntersectsRow.holds Tryz.pinned (OpenSpec.ofChange convexIntersectsSpec)

/-- ITS FALSE NEIGHBOUR: 'it returns false'. Refute it at one input. -/
def convexIntersectsWrong : ChangeSpec := { name := "convexIntersects", fn := fun _ => fun
  | [d1, d2, d3] => { results := [.lit (.bool false)], args := [d1, d2, d3] }
  | _ => none }
def ConvexIntersectsWrongFalsely : Prop := convexIntersectsRow.holds Tryz.pinned (OpenSpec.ofChange convexIntersectsWrong)

/-- 'viatorlaw09.ConvexMeets': WHATEVER THE INPUT: true; the input reads as it did. -/
def convexMeetsSpec : ChangeSpec := { name := "convexMeets", fn := fun _ => fun
  | [d1, d2, d3] => { results := [.lit (.bool true)], args := [d1, d2, d3] }
  | _ => none }
def convexMeetsRow : OpenClaim := { program := "ytdkkjfnpinckjaagreatdoor", sum := "eb77664b3b46dab7d6da213b43fbed309e7c84e1571744da7dd0860ce0bda778", func := "viator/viatorlaw09.ConvexMeets", spec := "convexMeets", inPlace := ["internal/bytealg.IndexByteString", "internal/bytealg.IndexString", "math/bits.Add64", "internal/bytealg.abigen_runtime_cmpstring"], unfollowed := true, recurses := true, named := ["unicode/utf8.first", "unicode/utf8.acceptRanges", "internal/bytealg.MaxLen"], apart := false, laid := [("unicode/utf8.acceptRanges", laid_unicode_utf8_acceptRanges), ("unicode/utf8.first", laid_unicode_utf8_first)] }
def ConvexMeetsSaid : Prop := convexMeetsRow.holds Tryz.pinned (OpenSpec.ofChange convexMeetsSpec)

/-- ITS FALSE NEIGHBOUR: 'it returns false'. Refute it at one input. -/
def convexMeetsWrong : ChangeSpec := { name := "convexMeets", fn := fun _ => fun
  | [d1, d2, d3] => { results := [.lit (.bool false)], args := [d1, d2, d3] }
  | _ => none }
def ConvexMeetsWrongFalsely : Prop := convexMeetsRow.holds Tryz.pinned (OpenSpec.ofChange convexMeetsWrong)

/-- 'viatorlaw09.ConvexSeparates': WHATEVER THE INPUT: true; the input reads as it did. -/
def convexSeparatesSpec : ChangeSpec := { name := "convexSeparates", fn := fun _ => fun
  | [d1, d2] => { results := [.lit (.bool true)], args := [d1, d2] }
  | _ => none }
def convexSeparatesRow : OpenClaim := { program := "ytdkkjfnpinckjaagreatdoor", sum := "eb77664b3b46dab7d6da213b43fbed309e7c84e1571744da7dd0860ce0bda778", func := "viator/viatorlaw09.ConvexSeparates", spec := "convexSeparates", inPlace := ["internal/bytealg.IndexByteString", "internal/bytealg.IndexString", "math/bits.Add64", "internal/bytealg.abigen_runtime_cmpstring"], unfollowed := true, recurses := true, named := ["unicode/utf8.first", "unicode/utf8.acceptRanges", "internal/bytealg.MaxLen"], apart := false, laid := [("unicode/utf8.acceptRanges", laid_unicode_utf8_acceptRanges), ("unicode/utf8.first", laid_unicode_utf8_first)] }
def ConvexSeparatesSaid : Prop := convexSeparatesRow.holds Tryz.pinned (OpenSpec.ofChange convexSeparatesSpec)

/-- ITS FALSE NEIGHBOUR: 'it returns false'. Refute it at one input. -/
def convexSeparatesWrong : ChangeSpec := { name := "convexSeparates", fn := fun _ => fun
  | [d1, d2] => { results := [.lit (.bool false)], args := [d1, d2] }
  | _ => none }
def ConvexSeparatesWrongFalsely : Prop := convexSeparatesRow.holds Tryz.pinned (OpenSpec.ofChange convexSeparatesWrong)

/- THE SECOND FORM. 'bulk': how many values and letters a reading holds, each counted each time it is reached (what is shared counts as often as it is met; a slice's spare places count too). A statement '..UptoSaid' is the law's where the arguments, and the package variables that the reading takes, are together of bulk at most 1048576: NARROWER than '..Said'. Prove '..Said' where nothing that the law and all that it calls make is longer than what came in: it says more and counts as full. Else prove '..UptoSaid'. A law counts once. -/
mutual
def uptoBulk {H : Type} : DataW H → Nat
  | .lit (.string bytes) => bytes.length + 1
  | .lit _ => 1
  | .nil => 1
  | .ptr d => uptoBulk d + 1
  | .slice elems spare => uptoBulkAll elems + uptoBulkAll spare + 1
  | .agg parts => uptoBulkAll parts + 1
  | .iface _ d => uptoBulk d + 1
  | .map entries => uptoBulkEntries entries + 1
  | .held _ => 1
def uptoBulkAll {H : Type} : List (DataW H) → Nat
  | [] => 0
  | d :: r => uptoBulk d + uptoBulkAll r
def uptoBulkEntries {H : Type} : List (Lit × DataW H) → Nat
  | [] => 0
  | x :: r => uptoBulkEntry x + uptoBulkEntries r
def uptoBulkEntry {H : Type} : Lit × DataW H → Nat
  | (.string bytes, d) => bytes.length + uptoBulk d + 1
  | (_, d) => uptoBulk d + 1
 end
def uptoSmall : (H : Type) → List (DataW H) → Bool := fun _ ds => decide (uptoBulkAll ds ≤ 1048576)
def OpenSpec.upto (s : _root_.Go.ChangeSpec) : _root_.Go.OpenSpec := { _root_.Go.OpenSpec.ofChange s with cond := some uptoSmall }

/-- 'viatorlaw09.ConvexContains', WHERE WHAT IT READS IS OF BULK AT MOST 1048576: true; the input reads as it did. -/
def convexContainsUptoRow : OpenClaim := { program := "ytdkkjfnpinckjaagreatdoor", sum := "eb77664b3b46dab7d6da213b43fbed309e7c84e1571744da7dd0860ce0bda778", func := "viator/viatorlaw09.ConvexContains", spec := "convexContains", inPlace := ["internal/bytealg.IndexByteString", "internal/bytealg.IndexString", "math/bits.Add64", "internal/bytealg.abigen_runtime_cmpstring"], unfollowed := true, recurses := true, named := ["unicode/utf8.first", "unicode/utf8.acceptRanges", "internal/bytealg.MaxLen"], apart := false, laid := [("unicode/utf8.acceptRanges", laid_unicode_utf8_acceptRanges), ("unicode/utf8.first", laid_unicode_utf8_first)], narrowed := true }
def ConvexContainsUptoSaid : Prop := convexContainsUptoRow.holds Tryz.pinned (OpenSpec.upto convexContainsSpec)

/-- 'viatorlaw09.ConvexCertifies', WHERE WHAT IT READS IS OF BULK AT MOST 1048576: true; the input reads as it did. -/
def convexCertifiesUptoRow : OpenClaim := { program := "ytdkkjfnpinckjaagreatdoor", sum := "eb77664b3b46dab7d6da213b43fbed309e7c84e1571744da7dd0860ce0bda778", func := "viator/viatorlaw09.ConvexCertifies", spec := "convexCertifies", inPlace := ["internal/bytealg.IndexByteString", "internal/bytealg.IndexString", "math/bits.Add64", "internal/bytealg.abigen_runtime_cmpstring"], unfollowed := true, recurses := true, named := ["unicode/utf8.first", "unicode/utf8.acceptRanges", "internal/bytealg.MaxLen"], apart := false, laid := [("unicode/utf8.acceptRanges", laid_unicode_utf8_acceptRanges), ("unicode/utf8.first", laid_unicode_utf8_first)], narrowed := true }
def ConvexCertifiesUptoSaid : Prop := convexCertifiesUptoRow.holds Tryz.pinned (OpenSpec.upto convexCertifiesSpec)

/-- 'viatorlaw09.ConvexSums', WHERE WHAT IT READS IS OF BULK AT MOST 1048576: true; the input reads as it did. -/
def convexSumsUptoRow : OpenClaim := { program := "ytdkkjfnpinckjaagreatdoor", sum := "eb77664b3b46dab7d6da213b43fbed309e7c84e1571744da7dd0860ce0bda778", func := "viator/viatorlaw09.ConvexSums", spec := "convexSums", inPlace := ["internal/bytealg.IndexByteString", "internal/bytealg.IndexString", "math/bits.Add64", "internal/bytealg.abigen_runtime_cmpstring"], unfollowed := true, recurses := true, named := ["unicode/utf8.first", "unicode/utf8.acceptRanges", "internal/bytealg.MaxLen"], apart := false, laid := [("unicode/utf8.acceptRanges", laid_unicode_utf8_acceptRanges), ("unicode/utf8.first", laid_unicode_utf8_first)], narrowed := true }
def ConvexSumsUptoSaid : Prop := convexSumsUptoRow.holds Tryz.pinned (OpenSpec.upto convexSumsSpec)

/-- 'viatorlaw09.ConvexSupports', WHERE WHAT IT READS IS OF BULK AT MOST 1048576: true; the input reads as it did. -/
def convexSupportsUptoRow : OpenClaim := { program := "ytdkkjfnpinckjaagreatdoor", sum := "eb77664b3b46dab7d6da213b43fbed309e7c84e1571744da7dd0860ce0bda778", func := "viator/viatorlaw09.ConvexSupports", spec := "convexSupports", inPlace := ["internal/bytealg.IndexByteString", "internal/bytealg.IndexString", "internal/bytealg.abigen_runtime_cmpstring", "math/bits.Add64"], unfollowed := true, recurses := true, named := ["unicode/utf8.first", "unicode/utf8.acceptRanges", "internal/bytealg.MaxLen"], apart := false, laid := [("unicode/utf8.acceptRanges", laid_unicode_utf8_acceptRanges), ("unicode/utf8.first", laid_unicode_utf8_first)], narrowed := true }
def ConvexSupportsUptoSaid : Prop := convexSupportsUptoRow.holds Tryz.pinned (OpenSpec.upto convexSupportsSpec)

/-- 'viatorlaw09.ConvexCuts', WHERE WHAT IT READS IS OF BULK AT MOST 1048576: true; the input reads as it did. -/
def convexCutsUptoRow : OpenClaim := { program := "ytdkkjfnpinckjaagreatdoor", sum := "eb77664b3b46dab7d6da213b43fbed309e7c84e1571744da7dd0860ce0bda778", func := "viator/viatorlaw09.ConvexCuts", spec := "convexCuts", inPlace := ["internal/bytealg.IndexByteString", "internal/bytealg.IndexString", "math/bits.Add64", "internal/bytealg.abigen_runtime_cmpstring"], unfollowed := true, recurses := true, named := ["unicode/utf8.first", "unicode/utf8.acceptRanges", "internal/bytealg.MaxLen"], apart := false, laid := [("unicode/utf8.acceptRanges", laid_unicode_utf8_acceptRanges), ("unicode/utf8.first", laid_unicode_utf8_first)], narrowed := true }
def ConvexCutsUptoSaid : Prop := convexCutsUptoRow.holds Tryz.pinned (OpenSpec.upto convexCutsSpec)

/-- 'viatorlaw09.ConvexDisks', WHERE WHAT IT READS IS OF BULK AT MOST 1048576: true; the input reads as it did. -/
def convexDisksUptoRow : OpenClaim := { program := "ytdkkjfnpinckjaagreatdoor", sum := "eb77664b3b46dab7d6da213b43fbed309e7c84e1571744da7dd0860ce0bda778", func := "viator/viatorlaw09.ConvexDisks", spec := "convexDisks", inPlace := ["internal/bytealg.abigen_runtime_cmpstring", "internal/bytealg.IndexByteString", "internal/bytealg.IndexString", "math/bits.Add64"], unfollowed := true, recurses := true, named := ["unicode/utf8.first", "unicode/utf8.acceptRanges", "internal/bytealg.MaxLen"], apart := false, laid := [("unicode/utf8.acceptRanges", laid_unicode_utf8_acceptRanges), ("unicode/utf8.first", laid_unicode_utf8_first)], narrowed := true }
def ConvexDisksUptoSaid : Prop := convexDisksUptoRow.holds Tryz.pinned (OpenSpec.upto convexDisksSpec)

/-- 'viatorlaw09.ConvexChecks', WHERE WHAT IT READS IS OF BULK AT MOST 1048576: true; the input reads as it did. -/
def convexChecksUptoRow : OpenClaim := { program := "ytdkkjfnpinckjaagreatdoor", sum := "eb77664b3b46dab7d6da213b43fbed309e7c84e1571744da7dd0860ce0bda778", func := "viator/viatorlaw09.ConvexChecks", spec := "convexChecks", inPlace := ["internal/bytealg.IndexByteString", "internal/bytealg.IndexString", "math/bits.Add64", "internal/bytealg.abigen_runtime_cmpstring"], unfollowed := true, recurses := true, named := ["unicode/utf8.first", "unicode/utf8.acceptRanges", "internal/bytealg.MaxLen"], apart := false, laid := [("unicode/utf8.acceptRanges", laid_unicode_utf8_acceptRanges), ("unicode/utf8.first", laid_unicode_utf8_first)], narrowed := true }
def ConvexChecksUptoSaid : Prop := convexChecksUptoRow.holds Tryz.pinned (OpenSpec.upto convexChecksSpec)

/-- 'viatorlaw09.ConvexGrows', WHERE WHAT IT READS IS OF BULK AT MOST 1048576: true; the input reads as it did. -/
def convexGrowsUptoRow : OpenClaim := { program := "ytdkkjfnpinckjaagreatdoor", sum := "eb77664b3b46dab7d6da213b43fbed309e7c84e1571744da7dd0860ce0bda778", func := "viator/viatorlaw09.ConvexGrows", spec := "convexGrows", inPlace := ["internal/bytealg.abigen_runtime_cmpstring", "internal/bytealg.IndexByteString", "internal/bytealg.IndexString", "math/bits.Add64"], unfollowed := true, recurses := true, named := ["unicode/utf8.first", "unicode/utf8.acceptRanges", "internal/bytealg.MaxLen"], apart := false, laid := [("unicode/utf8.acceptRanges", laid_unicode_utf8_acceptRanges), ("unicode/utf8.first", laid_unicode_utf8_first)], narrowed := true }
def ConvexGrowsUptoSaid : Prop := convexGrowsUptoRow.holds Tryz.pinned (OpenSpec.upto convexGrowsSpec)

/-- 'viatorlaw09.ConvexHulls', WHERE WHAT IT READS IS OF BULK AT MOST 1048576: true; the input reads as it did. -/
def convexHullsUptoRow : OpenClaim := { program := "ytdkkjfnpinckjaagreatdoor", sum := "eb77664b3b46dab7d6da213b43fbed309e7c84e1571744da7dd0860ce0bda778", func := "viator/viatorlaw09.ConvexHulls", spec := "convexHulls", inPlace := ["internal/bytealg.IndexByteString", "internal/bytealg.IndexString", "internal/bytealg.abigen_runtime_cmpstring", "math/bits.Add64"], unfollowed := true, recurses := true, named := ["unicode/utf8.first", "unicode/utf8.acceptRanges", "internal/bytealg.MaxLen"], apart := false, laid := [("unicode/utf8.acceptRanges", laid_unicode_utf8_acceptRanges), ("unicode/utf8.first", laid_unicode_utf8_first)], narrowed := true }
def ConvexHullsUptoSaid : Prop := convexHullsUptoRow.holds Tryz.pinned (OpenSpec.upto convexHullsSpec)

/-- 'viatorlaw09.ConvexIntersects', WHERE WHAT IT READS IS OF BULK AT MOST 1048576: true; the input reads as it did. -/
def convexIntersectsUptoRow : OpenClaim := { program := "ytdkkjfnpinckjaagreatdoor", sum := "eb77664b3b46dab7d6da213b43fbed309e7c84e1571744da7dd0860ce0bda778", func := "viator/viatorlaw09.ConvexIntersects", spec := "convexIntersects", inPlace := ["internal/bytealg.IndexByteString", "internal/bytealg.IndexString", "math/bits.Add64", "internal/bytealg.abigen_runtime_cmpstring"], unfollowed := true, recurses := true, named := ["unicode/utf8.first", "unicode/utf8.acceptRanges", "internal/bytealg.MaxLen"], apart := false, laid := [("unicode/utf8.acceptRanges", laid_unicode_utf8_acceptRanges), ("unicode/utf8.first", laid_unicode_utf8_first)], narrowed := true }
def ConvexIntersectsUptoSaid : Prop := convexIntersectsUptoRow.holds Tryz.pinned (OpenSpec.upto convexIntersectsSpec)

/-- 'viatorlaw09.ConvexMeets', WHERE WHAT IT READS IS OF BULK AT MOST 1048576: true; the input reads as it did. -/
def convexMeetsUptoRow : OpenClaim := { program := "ytdkkjfnpinckjaagreatdoor", sum := "eb77664b3b46dab7d6da213b43fbed309e7c84e1571744da7dd0860ce0bda778", func := "viator/viatorlaw09.ConvexMeets", spec := "convexMeets", inPlace := ["internal/bytealg.IndexByteString", "internal/bytealg.IndexString", "math/bits.Add64", "internal/bytealg.abigen_runtime_cmpstring"], unfollowed := true, recurses := true, named := ["unicode/utf8.first", "unicode/utf8.acceptRanges", "internal/bytealg.MaxLen"], apart := false, laid := [("unicode/utf8.acceptRanges", laid_unicode_utf8_acceptRanges), ("unicode/utf8.first", laid_unicode_utf8_first)], narrowed := true }
def ConvexMeetsUptoSaid : Prop := convexMeetsUptoRow.holds Tryz.pinned (OpenSpec.upto convexMeetsSpec)

/-- 'viatorlaw09.ConvexSeparates', WHERE WHAT IT READS IS OF BULK AT MOST 1048576: true; the input reads as it did. -/
def convexSeparatesUptoRow : OpenClaim := { program := "ytdkkjfnpinckjaagreatdoor", sum := "eb77664b3b46dab7d6da213b43fbed309e7c84e1571744da7dd0860ce0bda778", func := "viator/viatorlaw09.ConvexSeparates", spec := "convexSeparates", inPlace := ["internal/bytealg.IndexByteString", "internal/bytealg.IndexString", "math/bits.Add64", "internal/bytealg.abigen_runtime_cmpstring"], unfollowed := true, recurses := true, named := ["unicode/utf8.first", "unicode/utf8.acceptRanges", "internal/bytealg.MaxLen"], apart := false, laid := [("unicode/utf8.acceptRanges", laid_unicode_utf8_acceptRanges), ("unicode/utf8.first", laid_unicode_utf8_first)], narrowed := true }
def ConvexSeparatesUptoSaid : Prop := convexSeparatesUptoRow.holds Tryz.pinned (OpenSpec.upto convexSeparatesSpec)

end Rows
end Go.Proofs.YtdkkjfnpinckjaaGreatDoor
