/-
  NARROWER THAN 'FOR EVERY INPUT', by the rows' own cells (each row's printed sentence says how): PolygonRings: laid · PolygonChecks: laid · PolygonForms: laid · PolygonAreas: laid · PolygonLocates: laid · PolygonTouches: laid · PolygonTranslates: laid · PolygonCanonical: laid · PolygonEquals: laid · PolygonEdges: laid · PolygonInner: laid · PolygonContains: laid.
  DERIVED. THE GIVEN ROWS OF THIS SEAT. 12 by the template 'for every input the law returns true; each argument reads behind the call as it read before'; 0 by the template 'total and deterministic' (their statements: YtiochgoocbkckaaGreatDoorTotals.lean).
  GIVEN WITH THE SEED: the statements are not yours to turn. If you find one false, say at which input.
  Laid BY PROGRAM, IN A SANDBOX (cutbox-rows.mjs): the forced cells as the released guide's own fill.sh prints them over the translation 255889f3fe285f6b… (all of the seat's roots in one cut). By AI agents, Wed Nov 11 2026. No macro, syntax, notation, axiom, sorry.
-/
import Derived.Test.YtiochgoocbkckaaGreatDoorChecked
import GoSem.PinnedTables
import GoSem.Claim
import GoSem.ClaimJoined
import GoSem.ClaimMapViews
import Derived.JoinedTies
import Derived.KernelRfl
namespace Go.Proofs.YtiochgoocbkckaaGreatDoor
/- THE CELL 'sum', in the pinned program and in every row, IS THE sha256 OF THE DUMP (.gsa) THAT YtiochgoocbkckaaGreatDoorProg.lean LOADS. Nothing in Lean hashes anything: it is a label: what it is worth is what the hold of that sum in a sandbox is worth. -/
noncomputable def Tryz.pinned : Pinned := { name := "ytiochgoocbkckaagreatdoor", sum := "255889f3fe285f6bd507538c0e019b675ec951de4f812ee61ce10bff7c96bcde", checked := Tryz.checked }
namespace Rows
def none {H : Type} : Left H := { results := [], args := [] }

/- WHAT THE LISTED PACKAGE-LEVEL VARIABLES READ AS WHEN THE CALL BEGINS. Each datum BY PROGRAM (the guide's laid-datum.mjs) off the statement by which the dump's own 'gosem.cut.vars' lays the variable. In a bare row this is a premise. The card (YtiochgoocbkckaaGreatDoorCards.lean) ties it to the program's text. -/
def laid_unicode_utf8_acceptRanges {H : Type} : DataW H := .agg [.agg [.lit (.int .u8 128), .lit (.int .u8 191)], .agg [.lit (.int .u8 160), .lit (.int .u8 191)], .agg [.lit (.int .u8 128), .lit (.int .u8 159)], .agg [.lit (.int .u8 144), .lit (.int .u8 191)], .agg [.lit (.int .u8 128), .lit (.int .u8 143)], .agg [.lit (.int .u8 0), .lit (.int .u8 0)], .agg [.lit (.int .u8 0), .lit (.int .u8 0)], .agg [.lit (.int .u8 0), .lit (.int .u8 0)], .agg [.lit (.int .u8 0), .lit (.int .u8 0)], .agg [.lit (.int .u8 0), .lit (.int .u8 0)], .agg [.lit (.int .u8 0), .lit (.int .u8 0)], .agg [.lit (.int .u8 0), .lit (.int .u8 0)], .agg [.lit (.int .u8 0), .lit (.int .u8 0)], .agg [.lit (.int .u8 0), .lit (.int .u8 0)], .agg [.lit (.int .u8 0), .lit (.int .u8 0)], .agg [.lit (.int .u8 0), .lit (.int .u8 0)]]
/-- One of Go's own tables, pinned by name: the form's constant. -/
def laid_unicode_utf8_first : DataW Unit := Go.Pinned.utf8First

/-- 'viatorlaw08.PolygonRings': WHATEVER THE INPUT: true; the input reads as it did. -/
def polygonRingsSpec : ChangeSpec := { name := "polygonRings", fn := fun _ => fun
  | [d] => { results := [.lit (.bool true)], args := [d] }
  | _ => none }
def polygonRingsRow : OpenClaim := { program := "ytiochgoocbkckaagreatdoor", sum := "255889f3fe285f6bd507538c0e019b675ec951de4f812ee61ce10bff7c96bcde", func := "viator/viatorlaw08.PolygonRings", spec := "polygonRings", inPlace := ["internal/bytealg.IndexByteString", "internal/bytealg.IndexString", "math/bits.Add64", "internal/bytealg.abigen_runtime_cmpstring"], unfollowed := true, recurses := true, named := ["unicode/utf8.first", "unicode/utf8.acceptRanges", "internal/bytealg.MaxLen"], apart := false, laid := [("unicode/utf8.acceptRanges", laid_unicode_utf8_acceptRanges), ("unicode/utf8.first", laid_unicode_utf8_first)] }
def PolygonRingsSaid : Prop := polygonRingsRow.holds Tryz.pinned (OpenSpec.ofChange polygonRingsSpec)

/-- ITS FALSE NEIGHBOUR: 'it returns false'. Refute it at one input. -/
def polygonRingsWrong : ChangeSpec := { name := "polygonRings", fn := fun _ => fun
  | [d] => { results := [.lit (.bool false)], args := [d] }
  | _ => none }
def PolygonRingsWrongFalsely : Prop := polygonRingsRow.holds Tryz.pinned (OpenSpec.ofChange polygonRingsWrong)

/-- 'viatorlaw08.PolygonChecks': WHATEVER THE INPUT: true; the input reads as it did. -/
def polygonChecksSpec : ChangeSpec := { name := "polygonChecks", fn := fun _ => fun
  | [d1, d2] => { results := [.lit (.bool true)], args := [d1, d2] }
  | _ => none }
def polygonChecksRow : OpenClaim := { program := "ytiochgoocbkckaagreatdoor", sum := "255889f3fe285f6bd507538c0e019b675ec951de4f812ee61ce10bff7c96bcde", func := "viator/viatorlaw08.PolygonChecks", spec := "polygonChecks", inPlace := ["internal/bytealg.IndexByteString", "internal/bytealg.IndexString", "math/bits.Add64", "internal/bytealg.abigen_runtime_cmpstring"], unfollowed := true, recurses := true, named := ["unicode/utf8.first", "unicode/utf8.acceptRanges", "internal/bytealg.MaxLen"], apart := false, laid := [("unicode/utf8.acceptRanges", laid_unicode_utf8_acceptRanges), ("unicode/utf8.first", laid_unicode_utf8_first)] }
def PolygonChecksSaid : Prop := polygonChecksRow.holds Tryz.pinned (OpenSpec.ofChange polygonChecksSpec)

/-- ITS FALSE NEIGHBOUR: 'it returns false'. Refute it at one input. -/
def polygonChecksWrong : ChangeSpec := { name := "polygonChecks", fn := fun _ => fun
  | [d1, d2] => { results := [.lit (.bool false)], args := [d1, d2] }
  | _ => none }
def PolygonChecksWrongFalsely : Prop := polygonChecksRow.holds Tryz.pinned (OpenSpec.ofChange polygonChecksWrong)

/-- 'viatorlaw08.PolygonForms': WHATEVER THE INPUT: true; the input reads as it did. -/
def polygonFormsSpec : ChangeSpec := { name := "polygonForms", fn := fun _ => fun
  | [d] => { results := [.lit (.bool true)], args := [d] }
  | _ => none }
def polygonFormsRow : OpenClaim := { program := "ytiochgoocbkckaagreatdoor", sum := "255889f3fe285f6bd507538c0e019b675ec951de4f812ee61ce10bff7c96bcde", func := "viator/viatorlaw08.PolygonForms", spec := "polygonForms", inPlace := ["internal/bytealg.IndexByteString", "internal/bytealg.IndexString", "math/bits.Add64", "internal/bytealg.abigen_runtime_cmpstring"], unfollowed := true, recurses := true, named := ["unicode/utf8.first", "unicode/utf8.acceptRanges", "internal/bytealg.MaxLen"], apart := false, laid := [("unicode/utf8.acceptRanges", laid_unicode_utf8_acceptRanges), ("unicode/utf8.first", laid_unicode_utf8_first)] }
def PolygonFormsSaid : Prop := polygonFormsRow.holds Tryz.pinned (OpenSpec.ofChange polygonFormsSpec)

/-- ITS FALSE NEIGHBOUR: 'it returns false'. Refute it at one input. -/
def polygonFormsWrong : ChangeSpec := { name := "polygonForms", fn := fun _ => fun
  | [d] => { results := [.lit (.bool false)], args := [d] }
  | _ => none }
def PolygonFormsWrongFalsely : Prop := polygonFormsRow.holds Tryz.pinned (OpenSpec.ofChange polygonFormsWrong)

/-- 'viatorlaw08.PolygonAreas': WHATEVER THE INPUT: true; the input reads as it did. -/
def polygonAreasSpec : ChangeSpec := { name := "polygonAreas", fn := fun _ => fun
  | [d1, d2] => { results := [.lit (.bool true)], args := [d1, d2] }
  | _ => none }
def polygonAreasRow : OpenClaim := { program := "ytiochgoocbkckaagreatdoor", sum := "255889f3fe285f6bd507538c0e019b675ec951de4f812ee61ce10bff7c96bcde", func := "viator/viatorlaw08.PolygonAreas", spec := "polygonAreas", inPlace := ["internal/bytealg.IndexByteString", "internal/bytealg.IndexString", "internal/bytealg.abigen_runtime_cmpstring", "math/bits.Add64"], unfollowed := true, recurses := true, named := ["unicode/utf8.first", "unicode/utf8.acceptRanges", "internal/bytealg.MaxLen"], apart := false, laid := [("unicode/utf8.acceptRanges", laid_unicode_utf8_acceptRanges), ("unicode/utf8.first", laid_unicode_utf8_first)] }
def PolygonAreasSaid : Prop := polygonAreasRow.holds Tryz.pinned (OpenSpec.ofChange polygonAreasSpec)

/-- ITS FALSE NEIGHBOUR: 'it returns false'. Refute it at one input. -/
def polygonAreasWrong : ChangeSpec := { name := "polygonAreas", fn := fun _ => fun
  | [d1, d2] => { results := [.lit (.bool false)], args := [d1, d2] }
  | _ => none }
def PolygonAreasWrongFalsely : Prop := polygonAreasRow.holds Tryz.pinned (OpenSpec.ofChange polygonAreasWrong)

/-- 'viatorlaw08.PolygonLocates': WHATEVER THE INPUT: true; the input reads as it did. -/
def polygonLocatesSpec : ChangeSpec := { name := "polygonLocates", fn := fun _ => fun
  | [d1, d2] => { results := [.lit (.bool true)], args := [d1, d2] }
  | _ => none }
def polygonLocatesRow : OpenClaim := { program := "ytiochgoocbkckaagreatdoor", sum := "255889f3fe285f6bd507538c0e019b675ec951de4f812ee61ce10bff7c96bcde", func := "viator/viatorlaw08.PolygonLocates", spec := "polygonLocates", inPlace := ["internal/bytealg.IndexByteString", "internal/bytealg.IndexString", "math/bits.Add64", "internal/bytealg.abigen_runtime_cmpstring"], unfollowed := true, recurses := true, named := ["unicode/utf8.first", "unicode/utf8.acceptRanges", "internal/bytealg.MaxLen"], apart := false, laid := [("unicode/utf8.acceptRanges", laid_unicode_utf8_acceptRanges), ("unicode/utf8.first", laid_unicode_utf8_first)] }
def PolygonLocatesSaid : Prop := polygonLocatesRow.holds Tryz.pinned (OpenSpec.ofChange polygonLocatesSpec)

/-- ITS FALSE NEIGHBOUR: 'it returns false'. Refute it at one input. -/
def polygonLocatesWrong : ChangeSpec := { name := "polygonLocates", fn := fun _ => fun
  | [d1, d2] => { results := [.lit (.bool false)], args := [d1, d2] }
  | _ => none }
def PolygonLocatesWrongFalsely : Prop := polygonLocatesRow.holds Tryz.pinned (OpenSpec.ofChange polygonLocatesWrong)

/-- 'viatorlaw08.PolygonTouches': WHATEVER THE INPUT: true; the input reads as it did. -/
def polygonTouchesSpec : ChangeSpec := { name := "polygonTouches", fn := fun _ => fun
  | [d1, d2, d3] => { results := [.lit (.bool true)], args := [d1, d2, d3] }
  | _ => none }
def polygonTouchesRow : OpenClaim := { program := "ytiochgoocbkckaagreatdoor", sum := "255889f3fe285f6bd507538c0e019b675ec951de4f812ee61ce10bff7c96bcde", func := "viator/viatorlaw08.PolygonTouches", spec := "polygonTouches", inPlace := ["internal/bytealg.IndexByteString", "internal/bytealg.IndexString", "math/bits.Add64", "internal/bytealg.abigen_runtime_cmpstring"], unfollowed := true, recurses := true, named := ["unicode/utf8.first", "unicode/utf8.acceptRanges", "internal/bytealg.MaxLen"], apart := false, laid := [("unicode/utf8.acceptRanges", laid_unicode_utf8_acceptRanges), ("unicode/utf8.first", laid_unicode_utf8_first)] }
def PolygonTouchesSaid : Prop := polygonTouchesRow.holds Tryz.pinned (OpenSpec.ofChange polygonTouchesSpec)

/-- ITS FALSE NEIGHBOUR: 'it returns false'. Refute it at one input. -/
def polygonTouchesWrong : ChangeSpec := { name := "polygonTouches", fn := fun _ => fun
  | [d1, d2, d3] => { results := [.lit (.bool false)], args := [d1, d2, d3] }
  | _ => none }
def PolygonTouchesWrongFalsely : Prop := polygonTouchesRow.holds Tryz.pinned (OpenSpec.ofChange polygonTouchesWrong)

/-- 'viatorlaw08.PolygonTranslates': WHATEVER THE INPUT: true; the input reads as it did. -/
def polygonTranslatesSpec : ChangeSpec := { name := "polygonTranslates", fn := fun _ => fun
  | [d1, d2] => { results := [.lit (.bool true)], args := [d1, d2] }
  | _ => none }
def polygonTranslatesRow : OpenClaim := { program := "ytiochgoocbkckaagreatdoor", sum := "255889f3fe285f6bd507538c0e019b675ec951de4f812ee61ce10bff7c96bcde", func := "viator/viatorlaw08.PolygonTranslates", spec := "polygonTranslates", inPlace := ["internal/bytealg.IndexByteString", "internal/bytealg.IndexString", "math/bits.Add64", "internal/bytealg.abigen_runtime_cmpstring"], unfollowed := true, recurses := true, named := ["unicode/utf8.first", "unicode/utf8.acceptRanges", "internal/bytealg.MaxLen"], apart := false, laid := [("unicode/utf8.acceptRanges", laid_unicode_utf8_acceptRanges), ("unicode/utf8.first", laid_unicode_utf8_first)] }
def PolygonTranslatesSaid : Prop := polygonTranslatesRow.holds Tryz.pinned (OpenSpec.ofChange polygonTranslatesSpec)

/-- ITS FALSE NEIGHBOUR: 'it returns false'. Refute it at one input. -/
def polygonTranslatesWrong : ChangeSpec := { name := "polygonTranslates", fn := fun _ => fun
  | [d1, d2] => { results := [.lit (.bool false)], args := [d1, d2] }
  | _ => none }
def PolygonTranslatesWrongFalsely : Prop := polygonTranslatesRow.holds Tryz.pinned (OpenSpec.ofChange polygonTranslatesWrong)

/-- 'viatorlaw08.PolygonCanonical': WHATEVER THE INPUT: true; the input reads as it did. -/
def polygonCanonicalSpec : ChangeSpec := { name := "polygonCanonical", fn := fun _ => fun
  | [d1, d2, d3] => { results := [.lit (.bool true)], args := [d1, d2, d3] }
  | _ => none }
def polygonCanonicalRow : OpenClaim := { program := "ytiochgoocbkckaagreatdoor", sum := "255889f3fe285f6bd507538c0e019b675ec951de4f812ee61ce10bff7c96bcde", func := "viator/viatorlaw08.PolygonCanonical", spec := "polygonCanonical", inPlace := ["internal/bytealg.IndexByteString", "internal/bytealg.IndexString", "math/bits.Add64", "internal/bytealg.abigen_runtime_cmpstring"], unfollowed := true, recurses := true, named := ["unicode/utf8.first", "unicode/utf8.acceptRanges", "internal/bytealg.MaxLen"], apart := false, laid := [("unicode/utf8.acceptRanges", laid_unicode_utf8_acceptRanges), ("unicode/utf8.first", laid_unicode_utf8_first)] }
def PolygonCanonicalSaid : Prop := polygonCanonicalRow.holds Tryz.pinned (OpenSpec.ofChange polygonCanonicalSpec)

/-- ITS FALSE NEIGHBOUR: 'it returns false'. Refute it at one input. -/
def polygonCanonicalWrong : ChangeSpec := { name := "polygonCanonical", fn := fun _ => fun
  | [d1, d2, d3] => { results := [.lit (.bool false)], args := [d1, d2, d3] }
  | _ => none }
def PolygonCanonicalWrongFalsely : Prop := polygonCanonicalRow.holds Tryz.pinned (OpenSpec.ofChange polygonCanonicalWrong)

/-- 'viatorlaw08.PolygonEquals': WHATEVER THE INPUT: true; the input reads as it did. -/
def polygonEqualsSpec : ChangeSpec := { name := "polygonEquals", fn := fun _ => fun
  | [d1, d2] => { results := [.lit (.bool true)], args := [d1, d2] }
  | _ => none }
def polygonEqualsRow : OpenClaim := { program := "ytiochgoocbkckaagreatdoor", sum := "255889f3fe285f6bd507538c0e019b675ec951de4f812ee61ce10bff7c96bcde", func := "viator/viatorlaw08.PolygonEquals", spec := "polygonEquals", inPlace := ["internal/bytealg.IndexByteString", "internal/bytealg.IndexString", "math/bits.Add64", "internal/bytealg.abigen_runtime_cmpstring"], unfollowed := true, recurses := true, named := ["unicode/utf8.first", "unicode/utf8.acceptRanges", "internal/bytealg.MaxLen"], apart := false, laid := [("unicode/utf8.acceptRanges", laid_unicode_utf8_acceptRanges), ("unicode/utf8.first", laid_unicode_utf8_first)] }
def PolygonEqualsSaid : Prop := polygonEqualsRow.holds Tryz.pinned (OpenSpec.ofChange polygonEqualsSpec)

/-- ITS FALSE NEIGHBOUR: 'it returns false'. Refute it at one input. -/
def polygonEqualsWrong : ChangeSpec := { name := "polygonEquals", fn := fun _ => fun
  | [d1, d2] => { results := [.lit (.bool false)], args := [d1, d2] }
  | _ => none }
def PolygonEqualsWrongFalsely : Prop := polygonEqualsRow.holds Tryz.pinned (OpenSpec.ofChange polygonEqualsWrong)

/-- 'viatorlaw08.PolygonEdges': WHATEVER THE INPUT: true; the input reads as it did. -/
def polygonEdgesSpec : ChangeSpec := { name := "polygonEdges", fn := fun _ => fun
  | [d] => { results := [.lit (.bool true)], args := [d] }
  | _ => none }
def polygonEdgesRow : OpenClaim := { program := "ytiochgoocbkckaagreatdoor", sum := "255889f3fe285f6bd507538c0e019b675ec951de4f812ee61ce10bff7c96bcde", func := "viator/viatorlaw08.PolygonEdges", spec := "polygonEdges", inPlace := ["internal/bytealg.IndexByteString", "internal/bytealg.IndexString", "internal/bytealg.abigen_runtime_cmpstring", "math/bits.Add64"], unfollowed := true, recurses := true, named := ["unicode/utf8.first", "unicode/utf8.acceptRanges", "internal/bytealg.MaxLen"], apart := false, laid := [("unicode/utf8.acceptRanges", laid_unicode_utf8_acceptRanges), ("unicode/utf8.first", laid_unicode_utf8_first)] }
def PolygonEdgesSaid : Prop := polygonEdgesRow.holds Tryz.pinned (OpenSpec.ofChange polygonEdgesSpec)

/-- ITS FALSE NEIGHBOUR: 'it returns false'. Refute it at one input. -/
def polygonEdgesWrong : ChangeSpec := { name := "polygonEdges", fn := fun _ => fun
  | [d] => { results := [.lit (.bool false)], args := [d] }
  | _ => none }
def PolygonEdgesWrongFalsely : Prop := polygonEdgesRow.holds Tryz.pinned (OpenSpec.ofChange polygonEdgesWrong)

/-- 'viatorlaw08.PolygonInner': WHATEVER THE INPUT: true; the input reads as it did. -/
def polygonInnerSpec : ChangeSpec := { name := "polygonInner", fn := fun _ => fun
  | [d] => { results := [.lit (.bool true)], args := [d] }
  | _ => none }
def polygonInnerRow : OpenClaim := { program := "ytiochgoocbkckaagreatdoor", sum := "255889f3fe285f6bd507538c0e019b675ec951de4f812ee61ce10bff7c96bcde", func := "viator/viatorlaw08.PolygonInner", spec := "polygonInner", inPlace := ["internal/bytealg.IndexByteString", "internal/bytealg.IndexString", "internal/bytealg.abigen_runtime_cmpstring", "math/bits.Add64"], unfollowed := true, recurses := true, named := ["unicode/utf8.first", "unicode/utf8.acceptRanges", "internal/bytealg.MaxLen"], apart := false, laid := [("unicode/utf8.acceptRanges", laid_unicode_utf8_acceptRanges), ("unicode/utf8.first", laid_unicode_utf8_first)] }
def PolygonInnerSaid : Prop := polygonInnerRow.holds Tryz.pinned (OpenSpec.ofChange polygonInnerSpec)

/-- ITS FALSE NEIGHBOUR: 'it returns false'. Refute it at one input. -/
def polygonInnerWrong : ChangeSpec := { name := "polygonInner", fn := fun _ => fun
  | [d] => { results := [.lit (.bool false)], args := [d] }
  | _ => none }
def PolygonInnerWrongFalsely : Prop := polygonInnerRow.holds Tryz.pinned (OpenSpec.ofChange polygonInnerWrong)

/-- 'viatorlaw08.PolygonContains': WHATEVER THE INPUT: true; the input reads as it did. -/
def polygonContainsSpec : ChangeSpec := { name := "polygonContains", fn := fun _ => fun
  | [d1, d2] => { results := [.lit (.bool true)], args := [d1, d2] }
  | _ => none }
def polygonContainsRow : OpenClaim := { program := "ytiochgoocbkckaagreatdoor", sum := "255889f3fe285f6bd507538c0e019b675ec951de4f812ee61ce10bff7c96bcde", func := "viator/viatorlaw08.PolygonContains", spec := "polygonContains", inPlace := ["internal/bytealg.IndexByteString", "internal/bytealg.IndexString", "math/bits.Add64", "internal/bytealg.abigen_runtime_cmpstring"], unfollowed := true, recurses := true, named := ["unicode/utf8.first", "unicode/utf8.acceptRanges", "internal/bytealg.MaxLen"], apart := false, laid := [("unicode/utf8.acceptRanges", laid_unicode_utf8_acceptRanges), ("unicode/utf8.first", laid_unicode_utf8_first)] }
def PolygonContainsSaid : Prop := polygonContainsRow.holds Tryz.pinned (OpenSpec.ofChange polygonContainsSpec)

/-- ITS FALSE NEIGHBOUR: 'it returns false'. Refute it at one input. -/
def polygonContainsWrong : ChangeSpec := { name := "polygonContains", fn := fun _ => fun
  | [d1, d2] => { results := [.lit (.bool false)], args := [d1, d2] }
  | _ => none }
def PolygonContainsWrongFalsely : Prop := polygonContainsRow.holds Tryz.pinned (OpenSpec.ofChange polygonContainsWrong)

/- THE SECOND FORM. 'bulk': how many values and letters a reading holds, each counted each time it is reached (what is shared counts as often as it is met; a slice's spare places count too). A statement '..UptoSaid' is the law's where the arguments, and the package variables that the reading takes, are together of bulk at most 1048576: NARROWER than '..Said'. Prove '..Said' where nothing that the law and all that it calls make is longer than what came in: it says more and counts as full. Else prove '..UptoSaid'. A law counts once. -/
mutual
def uptoBulk {H : Type} : DataW H → Nat
  | .lit (.string bytes) => bytes.length + 1
  | .lit _ => 1
  | .nil => 1
  | .ptr d => uptoBulk d + 1
  | .slice elems spare => uptoBulkAll elems + uptoBulkAll spare + 1
  | .agg parts => uptoBulkAll parts + 1
  | .iface _ d => uptoBulk d + 1
  | .map entries => uptoBulkEntries entries + 1
  | .held _ => 1
def uptoBulkAll {H : Type} : List (DataW H) → Nat
  | [] => 0
  | d :: r => uptoBulk d + uptoBulkAll r
def uptoBulkEntries {H : Type} : List (Lit × DataW H) → Nat
  | [] => 0
  | x :: r => uptoBulkEntry x + uptoBulkEntries r
def uptoBulkEntry {H : Type} : Lit × DataW H → Nat
  | (.string bytes, d) => bytes.length + uptoBulk d + 1
  | (_, d) => uptoBulk d + 1
 end
def uptoSmall : (H : Type) → List (DataW H) → Bool := fun _ ds => decide (uptoBulkAll ds ≤ 1048576)
def OpenSpec.upto (s : _root_.Go.ChangeSpec) : _root_.Go.OpenSpec := { _root_.Go.OpenSpec.ofChange s with cond := some uptoSmall }

/-- 'viatorlaw08.PolygonRings', WHERE WHAT IT READS IS OF BULK AT MOST 1048576: true; the input reads as it did. -/
def polygonRingsUptoRow : OpenClaim := { program := "ytiochgoocbkckaagreatdoor", sum := "255889f3fe285f6bd507538c0e019b675ec951de4f812ee61ce10bff7c96bcde", func := "viator/viatorlaw08.PolygonRings", spec := "polygonRings", inPlace := ["internal/bytealg.IndexByteString", "internal/bytealg.IndexString", "math/bits.Add64", "internal/bytealg.abigen_runtime_cmpstring"], unfollowed := true, recurses := true, named := ["unicode/utf8.first", "unicode/utf8.acceptRanges", "internal/bytealg.MaxLen"], apart := false, laid := [("unicode/utf8.acceptRanges", laid_unicode_utf8_acceptRanges), ("unicode/utf8.first", laid_unicode_utf8_first)], narrowed := true }
def PolygonRingsUptoSaid : Prop := polygonRingsUptoRow.holds Tryz.pinned (OpenSpec.upto polygonRingsSpec)

/-- 'viatorlaw08.PolygonChecks', WHERE WHAT IT READS IS OF BULK AT MOST 1048576: true; the input reads as it did. -/
def polygonChecksUptoRow : OpenClaim := { program := "ytiochgoocbkckaagreatdoor", sum := "255889f3fe285f6bd507538c0e019b675ec951de4f812ee61ce10bff7c96bcde", func := "viator/viatorlaw08.PolygonChecks", spec := "polygonChecks", inPlace := ["internal/bytealg.IndexByteString", "internal/bytealg.IndexString", "math/bits.Add64", "internal/bytealg.abigen_runtime_cmpstring"], unfollowed := true, recurses := true, named := ["unicode/utf8.first", "unicode/utf8.acceptRanges", "internal/bytealg.MaxLen"], apart := false, laid := [("unicode/utf8.acceptRanges", laid_unicode_utf8_acceptRanges), ("unicode/utf8.first", laid_unicode_utf8_first)], narrowed := true }
def PolygonChecksUptoSaid : Prop := polygonChecksUptoRow.holds Tryz.pinned (OpenSpec.upto polygonChecksSpec)

/-- 'viatorlaw08.PolygonForms', WHERE WHAT IT READS IS OF BULK AT MOST 1048576: true; the input reads as it did. -/
def polygonFormsUptoRow : OpenClaim := { program := "ytiochgoocbkckaagreatdoor", sum := "255889f3fe285f6bd507538c0e019b675ec951de4f812ee61ce10bff7c96bcde", func := "viator/viatorlaw08.PolygonForms", spec := "polygonForms", inPlace := ["internal/bytealg.IndexByteString", "internal/bytealg.IndexString", "math/bits.Add64", "internal/bytealg.abigen_runtime_cmpstring"], unfollowed := true, recurses := true, named := ["unicode/utf8.first", "unicode/utf8.acceptRanges", "internal/bytealg.MaxLen"], apart := false, laid := [("unicode/utf8.acceptRanges", laid_unicode_utf8_acceptRanges), ("unicode/utf8.first", laid_unicode_utf8_first)], narrowed := true }
def PolygonFormsUptoSaid : Prop := polygonFormsUptoRow.holds Tryz.pinned (OpenSpec.upto polygonFormsSpec)

/-- 'viatorlaw08.PolygonAreas', WHERE WHAT IT READS IS OF BULK AT MOST 1048576: true; the input reads as it did. -/
def polygonAreasUptoRow : OpenClaim := { program := "ytiochgoocbkckaagreatdoor", sum := "255889f3fe285f6bd507538c0e019b675ec951de4f812ee61ce10bff7c96bcde", func := "viator/viatorlaw08.PolygonAreas", spec := "polygonAreas", inPlace := ["internal/bytealg.IndexByteString", "internal/bytealg.IndexString", "internal/bytealg.abigen_runtime_cmpstring", "math/bits.Add64"], unfollowed := true, recurses := true, named := ["unicode/utf8.first", "unicode/utf8.acceptRanges", "internal/bytealg.MaxLen"], apart := false, laid := [("unicode/utf8.acceptRanges", laid_unicode_utf8_acceptRanges), ("unicode/utf8.first", laid_unicode_utf8_first)], narrowed := true }
def PolygonAreasUptoSaid : Prop := polygonAreasUptoRow.holds Tryz.pinned (OpenSpec.upto polygonAreasSpec)

/-- 'viatorlaw08.PolygonLocates', WHERE WHAT IT READS IS OF BULK AT MOST 1048576: true; the input reads as it did. -/
def polygonLocatesUptoRow : OpenClaim := { program := "ytiochgoocbkckaagreatdoor", sum := "255889f3fe285f6bd507538c0e019b675ec951de4f812ee61ce10bff7c96bcde", func := "viator/viatorlaw08.PolygonLocates", spec := "polygonLocates", inPlace := ["internal/bytealg.IndexByteString", "internal/bytealg.IndexString", "math/bits.Add64", "internal/bytealg.abigen_runtime_cmpstring"], unfollowed := true, recurses := true, named := ["unicode/utf8.first", "unicode/utf8.acceptRanges", "internal/bytealg.MaxLen"], apart := false, laid := [("unicode/utf8.acceptRanges", laid_unicode_utf8_acceptRanges), ("unicode/utf8.first", laid_unicode_utf8_first)], narrowed := true }
def PolygonLocatesUptoSaid : Prop := polygonLocatesUptoRow.holds Tryz.pinned (OpenSpec.upto polygonLocatesSpec)

/-- 'viatorlaw08.PolygonTouches', WHERE WHAT IT READS IS OF BULK AT MOST 1048576: true; the input reads as it did. -/
def polygonTouchesUptoRow : OpenClaim := { program := "ytiochgoocbkckaagreatdoor", sum := "255889f3fe285f6bd507538c0e019b675ec951de4f812ee61ce10bff7c96bcde", func := "viator/viatorlaw08.PolygonTouches", spec := "polygonTouches", inPlace := ["internal/bytealg.IndexByteString", "internal/bytealg.IndexString", "math/bits.Add64", "internal/bytealg.abigen_runtime_cmpstring"], unfollowed := true, recurses := true, named := ["unicode/utf8.first", "unicode/utf8.acceptRanges", "internal/bytealg.MaxLen"], apart := false, laid := [("unicode/utf8.acceptRanges", laid_unicode_utf8_acceptRanges), ("unicode/utf8.first", laid_unicode_utf8_first)], narrowed := true }
def PolygonTouchesUptoSaid : Prop := polygonTouchesUptoRow.holds Tryz.pinned (OpenSpec.upto polygonTouchesSpec)

/-- 'viatorlaw08.PolygonTranslates', WHERE WHAT IT READS IS OF BULK AT MOST 1048576: true; the input reads as it did. -/
def polygonTranslatesUptoRow : OpenClaim := { program := "ytiochgoocbkckaagreatdoor", sum := "255889f3fe285f6bd507538c0e019b675ec951de4f812ee61ce10bff7c96bcde", func := "viator/viatorlaw08.PolygonTranslates", spec := "polygonTranslates", inPlace := ["internal/bytealg.IndexByteString", "internal/bytealg.IndexString", "math/bits.Add64", "internal/bytealg.abigen_runtime_cmpstring"], unfollowed := true, recurses := true, named := ["unicode/utf8.first", "unicode/utf8.acceptRanges", "internal/bytealg.MaxLen"], apart := false, laid := [("unicode/utf8.acceptRanges", laid_unicode_utf8_acceptRanges), ("unicode/utf8.first", laid_unicode_utf8_first)], narrowed := true }
def PolygonTranslatesUptoSaid : Prop := polygonTranslatesUptoRow.holds Tryz.pinned (OpenSpec.upto polygonTranslatesSpec)

/-- 'viatorlaw08.PolygonCanonical', WHERE WHAT IT READS IS OF BULK AT MOST 1048576: true; the input reads as it did. -/
def polygonCanonicalUptoRow : OpenClaim := { program := "ytiochgoocbkckaagreatdoor", sum := "255889f3fe285f6bd507538c0e019b675ec951de4f812ee61ce10bff7c96bcde", func := "viator/viatorlaw08.PolygonCanonical", spec := "polygonCanonical", inPlace := ["internal/bytealg.IndexByteString", "internal/bytealg.IndexString", "math/bits.Add64", "internal/bytealg.abigen_runtime_cmpstring"], unfollowed := true, recurses := true, named := ["unicode/utf8.first", "unicode/utf8.acceptRanges", "internal/bytealg.MaxLen"], apart := false, laid := [("unicode/utf8.acceptRanges", laid_unicode_utf8_acceptRanges), ("unicode/utf8.first", laid_unicode_utf8_first)], narrowed := true }
def PolygonCanonicalUptoSaid : Prop := polygonCanonicalUptoRow.holds Tryz.pinned (OpenSpec.upto polygonCanonicalSpec)

/-- 'viatorlaw08.PolygonEquals', WHERE WHAT IT READS IS OF BULK AT MOST 1048576: true; the input reads as it did. -/
def polygonEqualsUptoRow : OpenClaim := { program := "ytiochgoocbkckaagreatdoor", sum := "255889f3fe285f6bd507538c0e019b675ec951de4f812ee61ce10bff7c96bcde", func := "viator/viatorlaw08.PolygonEquals", spec := "polygonEquals", inPlace := ["internal/bytealg.IndexByteString", "internal/bytealg.IndexString", "math/bits.Add64", "internal/bytealg.abigen_runtime_cmpstring"], unfollowed := true, recurses := true, named := ["unicode/utf8.first", "unicode/utf8.acceptRanges", "internal/bytealg.MaxLen"], apart := false, laid := [("unicode/utf8.acceptRanges", laid_unicode_utf8_acceptRanges), ("unicode/utf8.first", laid_unicode_utf8_first)], narrowed := true }
def PolygonEqualsUptoSaid : Prop := polygonEqualsUptoRow.holds Tryz.pinned (OpenSpec.upto polygonEqualsSpec)

/-- 'viatorlaw08.PolygonEdges', WHERE WHAT IT READS IS OF BULK AT MOST 1048576: true; the input reads as it did. -/
def polygonEdgesUptoRow : OpenClaim := { program := "ytiochgoocbkckaagreatdoor", sum := "255889f3fe285f6bd507538c0e019b675ec951de4f812ee61ce10bff7c96bcde", func := "viator/viatorlaw08.PolygonEdges", spec := "polygonEdges", inPlace := ["internal/bytealg.IndexByteString", "internal/bytealg.IndexString", "internal/bytealg.abigen_runtime_cmpstring", "math/bits.Add64"], unfollowed := true, recurses := true, named := ["unicode/utf8.first", "unicode/utf8.acceptRanges", "internal/bytealg.MaxLen"], apart := false, laid := [("unicode/utf8.acceptRanges", laid_unicode_utf8_acceptRanges), ("unicode/utf8.first", laid_unicode_utf8_first)], narrowed := true }
def PolygonEdgesUptoSaid : Prop := polygonEdgesUptoRow.holds Tryz.pinned (OpenSpec.upto polygonEdgesSpec)

/-- 'viatorlaw08.PolygonInner', WHERE WHAT IT READS IS OF BULK AT MOST 1048576: true; the input reads as it did. -/
def polygonInnerUptoRow : OpenClaim := { program := "ytiochgoocbkckaagreatdoor", sum := "255889f3fe285f6bd507538c0e019b675ec951de4f812ee61ce10bff7c96bcde", func := "viator/viatorlaw08.PolygonInner", spec := "polygonInner", inPlace := ["internal/bytealg.IndexByteString", "internal/bytealg.IndexString", "internal/bytealg.abigen_runtime_cmpstring", "math/bits.Add64"], unfollowed := true, recurses := true, named := ["unicode/utf8.first", "unicode/utf8.acceptRanges", "internal/bytealg.MaxLen"], apart := false, laid := [("unicode/utf8.acceptRanges", laid_unicode_utf8_acceptRanges), ("unicode/utf8.first", laid_unicode_utf8_first)], narrowed := true }
def PolygonInnerUptoSaid : Prop := polygonInnerUptoRow.holds Tryz.pinned (OpenSpec.upto polygonInnerSpec)

/-- 'viatorlaw08.PolygonContains', WHERE WHAT IT READS IS OF BULK AT MOST 1048576: true; the input reads as it did. -/
def polygonContainsUptoRow : OpenClaim := { program := "ytiochgoocbkckaagreatdoor", sum := "255889f3fe285f6bd507538c0e019b675ec951de4f812ee61ce10bff7c96bcde", func := "viator/viatorlaw08.PolygonContains", spec := "polygonContains", inPlace := ["internal/bytealg.IndexByteString", "internal/bytealg.IndexString", "math/bits.Add64", "internal/bytealg.abigen_runtime_cmpstring"], unfollowed := true, recurses := true, named := ["unicode/utf8.first", "unicode/utf8.acceptRanges", "internal/bytealg.MaxLen"], apart := false, laid := [("unicode/utf8.acceptRanges", laid_unicode_utf8_acceptRanges), ("unicode/utf8.first", laid_unicode_utf8_first)], narrowed := true }
def PolygonContainsUptoSaid : Prop := polygonContainsUptoRow.holds Tryz.pinned (OpenSpec.upto polygonContainsSpec)

end Rows
end Go.Proofs.YtiochgoocbkckaaGreatDoor
