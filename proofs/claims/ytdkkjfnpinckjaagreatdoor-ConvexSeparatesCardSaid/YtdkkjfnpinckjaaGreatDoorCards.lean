/-
  DERIVED. GIVEN WITH THE SEED: THE CARDS: each row of YtdkkjfnpinckjaaGreatDoorRows.lean that lists a variable, with what it lists TIED to the program's text (the seventh form; the later family's looks); each row that meets fmt, with fmt's text TOLD by the authors' own Lean function (tested against real Go, not proved from fmt's source: count such statements apart). THE CARD IS WHAT COUNTS. Prove the row's statement (the work); the ties are given (YtdkkjfnpinckjaaGreatDoorTie.lean); close each card by the builder's one call (the guide's Derived/Test/ToyasCard.lean, 'card_holds'). Laid BY PROGRAM, IN A SANDBOX (cutbox-door.mjs). By AI agents, Wed Nov 11 2026. No macro, syntax, notation, axiom, sorry.
-/
import Derived.Test.YtdkkjfnpinckjaaGreatDoorRows
import GoSem.ClaimSeven
namespace Go.Proofs.YtdkkjfnpinckjaaGreatDoor
namespace Rows

/-- THE TIED CARD OF 'viatorlaw09.ConvexContains'. -/
def convexContainsCard : Claim7 := { stood := { row := convexContainsRow, standIns := [], harness := (true, "58f1938c111bd1910912a1ccb0108aa688cdcb44b984c39e7af97087fdbd55b0"), looks := false }, kinds := [], alts := [], laidByText := true, laidKinds := [.data, .pinned], laidTests := true, laidLooks := .later }
def ConvexContainsCardSaid : Prop := Claim7.holds Tryz.pinned (.plain (OpenSpec.ofChange convexContainsSpec)) convexContainsCard

/-- THE TIED CARD OF 'viatorlaw09.ConvexCertifies'. -/
def convexCertifiesCard : Claim7 := { stood := { row := convexCertifiesRow, standIns := [], harness := (true, "58f1938c111bd1910912a1ccb0108aa688cdcb44b984c39e7af97087fdbd55b0"), looks := false }, kinds := [], alts := [], laidByText := true, laidKinds := [.data, .pinned], laidTests := true, laidLooks := .later }
def ConvexCertifiesCardSaid : Prop := Claim7.holds Tryz.pinned (.plain (OpenSpec.ofChange convexCertifiesSpec)) convexCertifiesCard

/-- THE TIED CARD OF 'viatorlaw09.ConvexSums'. -/
def convexSumsCard : Claim7 := { stood := { row := convexSumsRow, standIns := [], harness := (true, "58f1938c111bd1910912a1ccb0108aa688cdcb44b984c39e7af97087fdbd55b0"), looks := false }, kinds := [], alts := [], laidByText := true, laidKinds := [.data, .pinned], laidTests := true, laidLooks := .later }
def ConvexSumsCardSaid : Prop := Claim7.holds Tryz.pinned (.plain (OpenSpec.ofChange convexSumsSpec)) convexSumsCard

/-- THE TIED CARD OF 'viatorlaw09.ConvexSupports'. -/
def convexSupportsCard : Claim7 := { stood := { row := convexSupportsRow, standIns := [], harness := (true, "58f1938c111bd1910912a1ccb0108aa688cdcb44b984c39e7af97087fdbd55b0"), looks := false }, kinds := [], alts := [], laidByText := true, laidKinds := [.data, .pinned], laidTests := true, laidLooks := .later }
def ConvexSupportsCardSaid : Prop := Claim7.holds Tryz.pinned (.plain (OpenSpec.ofChange convexSupportsSpec)) convexSupportsCard

/-- THE TIED CARD OF 'viatorlaw09.ConvexCuts'. -/
def convexCutsCard : Claim7 := { stood := { row := convexCutsRow, standIns := [], harness := (true, "58f1938c111bd1910912a1ccb0108aa688cdcb44b984c39e7af97087fdbd55b0"), looks := false }, kinds := [], alts := [], laidByText := true, laidKinds := [.data, .pinned], laidTests := true, laidLooks := .later }
def ConvexCutsCardSaid : Prop := Claim7.holds Tryz.pinned (.plain (OpenSpec.ofChange convexCutsSpec)) convexCutsCard

/-- THE TIED CARD OF 'viatorlaw09.ConvexDisks'. -/
def convexDisksCard : Claim7 := { stood := { row := convexDisksRow, standIns := [], harness := (true, "58f1938c111bd1910912a1ccb0108aa688cdcb44b984c39e7af97087fdbd55b0"), looks := false }, kinds := [], alts := [], laidByText := true, laidKinds := [.data, .pinned], laidTests := true, laidLooks := .later }
def ConvexDisksCardSaid : Prop := Claim7.holds Tryz.pinned (.plain (OpenSpec.ofChange convexDisksSpec)) convexDisksCard

/-- THE TIED CARD OF 'viatorlaw09.ConvexChecks'. -/
def convexChecksCard : Claim7 := { stood := { row := convexChecksRow, standIns := [], harness := (true, "58f1938c111bd1910912a1ccb0108aa688cdcb44b984c39e7af97087fdbd55b0"), looks := false }, kinds := [], alts := [], laidByText := true, laidKinds := [.data, .pinned], laidTests := true, laidLooks := .later }
def ConvexChecksCardSaid : Prop := Claim7.holds Tryz.pinned (.plain (OpenSpec.ofChange convexChecksSpec)) convexChecksCard

/-- THE TIED CARD OF 'viatorlaw09.ConvexGrows'. -/
def convexGrowsCard : Claim7 := { stood := { row := convexGrowsRow, standIns := [], harness := (true, "58f1938c111bd1910912a1ccb0108aa688cdcb44b984c39e7af97087fdbd55b0"), looks := false }, kinds := [], alts := [], laidByText := true, laidKinds := [.data, .pinned], laidTests := true, laidLooks := .later }
def ConvexGrowsCardSaid : Prop := Claim7.holds Tryz.pinned (.plain (OpenSpec.ofChange convexGrowsSpec)) convexGrowsCard

/-- THE TIED CARD OF 'viatorlaw09.ConvexHulls'. -/
def convexHullsCard : Claim7 := { stood := { row := convexHullsRow, standIns := [], harness := (true, "58f1938c111bd1910912a1ccb0108aa688cdcb44b984c39e7af97087fdbd55b0"), looks := false }, kinds := [], alts := [], laidByText := true, laidKinds := [.data, .pinned], laidTests := true, laidLooks := .later }
def ConvexHullsCardSaid : Prop := Claim7.holds Tryz.pinned (.plain (OpenSpec.ofChange convexHullsSpec)) convexHullsCard

/-- THE TIED CARD OF 'viatorlaw09.ConvexIntersects'. -/
def convexIntersectsCard : Claim7 := { stood := { row := convexIntersectsRow, standIns := [], harness := (true, "58f1938c111bd1910912a1ccb0108aa688cdcb44b984c39e7af97087fdbd55b0"), looks := false }, kinds := [], alts := [], laidByText := true, laidKinds := [.data, .pinned], laidTests := true, laidLooks := .later }
def ConvexIntersectsCardSaid : Prop := Claim7.holds Tryz.pinned (.plain (OpenSpec.ofChange convexIntersectsSpec)) convexIntersectsCard

/-- THE TIED CARD OF 'viatorlaw09.ConvexMeets'. -/
def convexMeetsCard : Claim7 := { stood := { row := convexMeetsRow, standIns := [], harness := (true, "58f1938c111bd1910912a1ccb0108aa688cdcb44b984c39e7af97087fdbd55b0"), looks := false }, kinds := [], alts := [], laidByText := true, laidKinds := [.data, .pinned], laidTests := true, laidLooks := .later }
def ConvexMeetsCardSaid : Prop := Claim7.holds Tryz.pinned (.plain (OpenSpec.ofChange convexMeetsSpec)) convexMeetsCard

/-- THE TIED CARD OF 'viatorlaw09.ConvexSeparates'. -/
def convexSeparatesCard : Claim7 := { stood := { row := convexSeparatesRow, standIns := [], harness := (true, "58f1938c111bd1910912a1ccb0108aa688cdcb44b984c39e7af97087fdbd55b0"), looks := false }, kinds := [], alts := [], laidByText := true, laidKinds := [.data, .pinned], laidTests := true, laidLooks := .later }
def ConvexSeparatesCardSaid : Prop := Claim7.holds Tryz.pinned (.plain (OpenSpec.ofChange convexSeparatesSpec)) convexSeparatesCard

/-- THE SECOND FORM's CARD OF 'viatorlaw09.ConvexContains'. -/
def convexContainsUptoCard : Claim7 := { stood := { row := convexContainsUptoRow, standIns := [], harness := (true, "58f1938c111bd1910912a1ccb0108aa688cdcb44b984c39e7af97087fdbd55b0"), looks := false }, kinds := [], alts := [], laidByText := true, laidKinds := [.data, .pinned], laidTests := true, laidLooks := .later }
def ConvexContainsUptoCardSaid : Prop := Claim7.holds Tryz.pinned (.plain (OpenSpec.upto convexContainsSpec)) convexContainsUptoCard

/-- THE SECOND FORM's CARD OF 'viatorlaw09.ConvexCertifies'. -/
def convexCertifiesUptoCard : Claim7 := { stood := { row := convexCertifiesUptoRow, standIns := [], harness := (true, "58f1938c111bd1910912a1ccb0108aa688cdcb44b984c39e7af97087fdbd55b0"), looks := false }, kinds := [], alts := [], laidByText := true, laidKinds := [.data, .pinned], laidTests := true, laidLooks := .later }
def ConvexCertifiesUptoCardSaid : Prop := Claim7.holds Tryz.pinned (.plain (OpenSpec.upto convexCertifiesSpec)) convexCertifiesUptoCard

/-- THE SECOND FORM's CARD OF 'viatorlaw09.ConvexSums'. -/
def convexSumsUptoCard : Claim7 := { stood := { row := convexSumsUptoRow, standIns := [], harness := (true, "58f1938c111bd1910912a1ccb0108aa688cdcb44b984c39e7af97087fdbd55b0"), looks := false }, kinds := [], alts := [], laidByText := true, laidKinds := [.data, .pinned], laidTests := true, laidLooks := .later }
def ConvexSumsUptoCardSaid : Prop := Claim7.holds Tryz.pinned (.plain (OpenSpec.upto convexSumsSpec)) convexSumsUptoCard

/-- THE SECOND FORM's CARD OF 'viatorlaw09.ConvexSupports'. -/
def convexSupportsUptoCard : Claim7 := { stood := { row := convexSupportsUptoRow, standIns := [], harness := (true, "58f1938c111bd1910912a1ccb0108aa688cdcb44b984c39e7af97087fdbd55b0"), looks := false }, kinds := [], alts := [], laidByText := true, laidKinds := [.data, .pinned], laidTests := true, laidLooks := .later }
def ConvexSupportsUptoCardSaid : Prop := Claim7.holds Tryz.pinned (.plain (OpenSpec.upto convexSupportsSpec)) convexSupportsUptoCard

/-- THE SECOND FORM's CARD OF 'viatorlaw09.ConvexCuts'. -/
def convexCutsUptoCard : Claim7 := { stood := { row := convexCutsUptoRow, standIns := [], harness := (true, "58f1938c111bd1910912a1ccb0108aa688cdcb44b984c39e7af97087fdbd55b0"), looks := false }, kinds := [], alts := [], laidByText := true, laidKinds := [.data, .pinned], laidTests := true, laidLooks := .later }
def ConvexCutsUptoCardSaid : Prop := Claim7.holds Tryz.pinned (.plain (OpenSpec.upto convexCutsSpec)) convexCutsUptoCard

/-- THE SECOND FORM's CARD OF 'viatorlaw09.ConvexDisks'. -/
def convexDisksUptoCard : Claim7 := { stood := { row := convexDisksUptoRow, standIns := [], harness := (true, "58f1938c111bd1910912a1ccb0108aa688cdcb44b984c39e7af97087fdbd55b0"), looks := false }, kinds := [], alts := [], laidByText := true, laidKinds := [.data, .pinned], laidTests := true, laidLooks := .later }
def ConvexDisksUptoCardSaid : Prop := Claim7.holds Tryz.pinned (.plain (OpenSpec.upto convexDisksSpec)) convexDisksUptoCard

/-- THE SECOND FORM's CARD OF 'viatorlaw09.ConvexChecks'. -/
def convexChecksUptoCard : Claim7 := { stood := { row := convexChecksUptoRow, standIns := [], harness := (true, "58f1938c111bd1910912a1ccb0108aa688cdcb44b984c39e7af97087fdbd55b0"), looks := false }, kinds := [], alts := [], laidByText := true, laidKinds := [.data, .pinned], laidTests := true, laidLooks := .later }
def ConvexChecksUptoCardSaid : Prop := Claim7.holds Tryz.pinned (.plain (OpenSpec.upto convexChecksSpec)) convexChecksUptoCard

/-- THE SECOND FORM's CARD OF 'viatorlaw09.ConvexGrows'. -/
def convexGrowsUptoCard : Claim7 := { stood := { row := convexGrowsUptoRow, standIns := [], harness := (true, "58f1938c111bd1910912a1ccb0108aa688cdcb44b984c39e7af97087fdbd55b0"), looks := false }, kinds := [], alts := [], laidByText := true, laidKinds := [.data, .pinned], laidTests := true, laidLooks := .later }
def ConvexGrowsUptoCardSaid : Prop := Claim7.holds Tryz.pinned (.plain (OpenSpec.upto convexGrowsSpec)) convexGrowsUptoCard

/-- THE SECOND FORM's CARD OF 'viatorlaw09.ConvexHulls'. -/
def convexHullsUptoCard : Claim7 := { stood := { row := convexHullsUptoRow, standIns := [], harness := (true, "58f1938c111bd1910912a1ccb0108aa688cdcb44b984c39e7af97087fdbd55b0"), looks := false }, kinds := [], alts := [], laidByText := true, laidKinds := [.data, .pinned], laidTests := true, laidLooks := .later }
def ConvexHullsUptoCardSaid : Prop := Claim7.holds Tryz.pinned (.plain (OpenSpec.upto convexHullsSpec)) convexHullsUptoCard

/-- THE SECOND FORM's CARD OF 'viatorlaw09.ConvexIntersects'. -/
def convexIntersectsUptoCard : Claim7 := { stood := { row := convexIntersectsUptoRow, standIns := [], harness := (true, "58f1938c111bd1910912a1ccb0108aa688cdcb44b984c39e7af97087fdbd55b0"), looks := false }, kinds := [], alts := [], laidByText := true, laidKinds := [.data, .pinned], laidTests := true, laidLooks := .later }
def ConvexIntersectsUptoCardSaid : Prop := Claim7.holds Tryz.pinned (.plain (OpenSpec.upto convexIntersectsSpec)) convexIntersectsUptoCard

/-- THE SECOND FORM's CARD OF 'viatorlaw09.ConvexMeets'. -/
def convexMeetsUptoCard : Claim7 := { stood := { row := convexMeetsUptoRow, standIns := [], harness := (true, "58f1938c111bd1910912a1ccb0108aa688cdcb44b984c39e7af97087fdbd55b0"), looks := false }, kinds := [], alts := [], laidByText := true, laidKinds := [.data, .pinned], laidTests := true, laidLooks := .later }
def ConvexMeetsUptoCardSaid : Prop := Claim7.holds Tryz.pinned (.plain (OpenSpec.upto convexMeetsSpec)) convexMeetsUptoCard

/-- THE SECOND FORM's CARD OF 'viatorlaw09.ConvexSeparates'. -/
def convexSeparatesUptoCard : Claim7 := { stood := { row := convexSeparatesUptoRow, standIns := [], harness := (true, "58f1938c111bd1910912a1ccb0108aa688cdcb44b984c39e7af97087fdbd55b0"), looks := false }, kinds := [], alts := [], laidByText := true, laidKinds := [.data, .pinned], laidTests := true, laidLooks := .later }
def ConvexSeparatesUptoCardSaid : Prop := Claim7.holds Tryz.pinned (.plain (OpenSpec.upto convexSeparatesSpec)) convexSeparatesUptoCard
end Rows
end Go.Proofs.YtdkkjfnpinckjaaGreatDoor
