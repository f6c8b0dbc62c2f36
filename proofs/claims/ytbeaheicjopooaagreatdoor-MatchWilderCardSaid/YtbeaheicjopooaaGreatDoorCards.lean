/-
  DERIVED. GIVEN WITH THE SEED: THE CARDS: each row of YtbeaheicjopooaaGreatDoorRows.lean that lists a variable, with what it lists TIED to the program's text (the seventh form; the later family's looks); each row that meets fmt, with fmt's text TOLD by the authors' own Lean function (tested against real Go, not proved from fmt's source: count such statements apart). THE CARD IS WHAT COUNTS. Prove the row's statement (the work); the ties are given (YtbeaheicjopooaaGreatDoorTie.lean); close each card by the builder's one call (the guide's Derived/Test/ToyasCard.lean, 'card_holds'). Laid BY PROGRAM, IN A SANDBOX (cutbox-door.mjs). By AI agents, Wed Nov 11 2026. No macro, syntax, notation, axiom, sorry.
-/
import Derived.Test.YtbeaheicjopooaaGreatDoorRows
import GoSem.ClaimSeven
namespace Go.Proofs.YtbeaheicjopooaaGreatDoor
namespace Rows

/-- THE TIED CARD OF 'pouncelaw06.ResolveJoins'. -/
def resolveJoinsCard : Claim7 := { stood := { row := resolveJoinsRow, standIns := [], harness := (true, "e85f1b6634fc2661fe1e276c8626348e7a642b5784d41602cc4b5e571490a67a"), looks := true }, kinds := [], alts := [], laidByText := true, laidKinds := [.data, .data, .data, .data, .sentinel, .sentinel, .pinned], laidTests := true, laidLooks := .later }
def ResolveJoinsCardSaid : Prop := Claim7.holds Tryz.pinned (.plain (OpenSpec.ofChange resolveJoinsSpec)) resolveJoinsCard

/-- THE TIED CARD OF 'pouncelaw10.MatchParts'. -/
def matchPartsCard : Claim7 := { stood := { row := matchPartsRow, standIns := [], harness := (true, "e85f1b6634fc2661fe1e276c8626348e7a642b5784d41602cc4b5e571490a67a"), looks := true }, kinds := [], alts := [], laidByText := true, laidKinds := [.data, .data, .data, .data, .sentinel, .sentinel, .data, .pinned], laidTests := true, laidLooks := .later }
def MatchPartsCardSaid : Prop := Claim7.holds Tryz.pinned (.plain (OpenSpec.ofChange matchPartsSpec)) matchPartsCard

/-- THE TIED CARD OF 'pouncelaw10.MatchUrls'. -/
def matchUrlsCard : Claim7 := { stood := { row := matchUrlsRow, standIns := [], harness := (true, "e85f1b6634fc2661fe1e276c8626348e7a642b5784d41602cc4b5e571490a67a"), looks := true }, kinds := [], alts := [], laidByText := true, laidKinds := [.data, .data, .data, .data, .sentinel, .sentinel, .data, .pinned], laidTests := true, laidLooks := .later }
def MatchUrlsCardSaid : Prop := Claim7.holds Tryz.pinned (.plain (OpenSpec.ofChange matchUrlsSpec)) matchUrlsCard

/-- THE TIED CARD OF 'pouncelaw10.MatchMoved'. -/
def matchMovedCard : Claim7 := { stood := { row := matchMovedRow, standIns := [], harness := (true, "e85f1b6634fc2661fe1e276c8626348e7a642b5784d41602cc4b5e571490a67a"), looks := true }, kinds := [], alts := [], laidByText := true, laidKinds := [.data, .data, .data, .data, .sentinel, .sentinel, .data, .pinned], laidTests := true, laidLooks := .later }
def MatchMovedCardSaid : Prop := Claim7.holds Tryz.pinned (.plain (OpenSpec.ofChange matchMovedSpec)) matchMovedCard

/-- THE TIED CARD OF 'pouncelaw10.MatchWide'. -/
def matchWideCard : Claim7 := { stood := { row := matchWideRow, standIns := [], harness := (true, "e85f1b6634fc2661fe1e276c8626348e7a642b5784d41602cc4b5e571490a67a"), looks := true }, kinds := [], alts := [], laidByText := true, laidKinds := [.data, .data, .data, .data, .sentinel, .sentinel, .data, .pinned], laidTests := true, laidLooks := .later }
def MatchWideCardSaid : Prop := Claim7.holds Tryz.pinned (.plain (OpenSpec.ofChange matchWideSpec)) matchWideCard

/-- THE TIED CARD OF 'pouncelaw10.MatchSelf'. -/
def matchSelfCard : Claim7 := { stood := { row := matchSelfRow, standIns := [], harness := (true, "e85f1b6634fc2661fe1e276c8626348e7a642b5784d41602cc4b5e571490a67a"), looks := true }, kinds := [], alts := [], laidByText := true, laidKinds := [.data, .data, .data, .data, .sentinel, .sentinel, .data, .pinned], laidTests := true, laidLooks := .later }
def MatchSelfCardSaid : Prop := Claim7.holds Tryz.pinned (.plain (OpenSpec.ofChange matchSelfSpec)) matchSelfCard

/-- THE TIED CARD OF 'pouncelaw10.MatchScheme'. -/
def matchSchemeCard : Claim7 := { stood := { row := matchSchemeRow, standIns := [], harness := (true, "e85f1b6634fc2661fe1e276c8626348e7a642b5784d41602cc4b5e571490a67a"), looks := true }, kinds := [], alts := [], laidByText := true, laidKinds := [.data, .data, .data, .data, .sentinel, .sentinel, .data, .pinned], laidTests := true, laidLooks := .later }
def MatchSchemeCardSaid : Prop := Claim7.holds Tryz.pinned (.plain (OpenSpec.ofChange matchSchemeSpec)) matchSchemeCard

/-- THE TIED CARD OF 'pouncelaw10.MatchWilder'. -/
def matchWilderCard : Claim7 := { stood := { row := matchWilderRow, standIns := [], harness := (true, "e85f1b6634fc2661fe1e276c8626348e7a642b5784d41602cc4b5e571490a67a"), looks := true }, kinds := [], alts := [], laidByText := true, laidKinds := [.data, .data, .data, .data, .sentinel, .sentinel, .data, .pinned], laidTests := true, laidLooks := .later }
def MatchWilderCardSaid : Prop := Claim7.holds Tryz.pinned (.plain (OpenSpec.ofChange matchWilderSpec)) matchWilderCard

/-- THE SECOND FORM's CARD OF 'pouncelaw06.ResolveJoins'. -/
def resolveJoinsUptoCard : Claim7 := { stood := { row := resolveJoinsUptoRow, standIns := [], harness := (true, "e85f1b6634fc2661fe1e276c8626348e7a642b5784d41602cc4b5e571490a67a"), looks := true }, kinds := [], alts := [], laidByText := true, laidKinds := [.data, .data, .data, .data, .sentinel, .sentinel, .pinned], laidTests := true, laidLooks := .later }
def ResolveJoinsUptoCardSaid : Prop := Claim7.holds Tryz.pinned (.plain (OpenSpec.upto resolveJoinsSpec)) resolveJoinsUptoCard

/-- THE SECOND FORM's CARD OF 'pouncelaw10.MatchParts'. -/
def matchPartsUptoCard : Claim7 := { stood := { row := matchPartsUptoRow, standIns := [], harness := (true, "e85f1b6634fc2661fe1e276c8626348e7a642b5784d41602cc4b5e571490a67a"), looks := true }, kinds := [], alts := [], laidByText := true, laidKinds := [.data, .data, .data, .data, .sentinel, .sentinel, .data, .pinned], laidTests := true, laidLooks := .later }
def MatchPartsUptoCardSaid : Prop := Claim7.holds Tryz.pinned (.plain (OpenSpec.upto matchPartsSpec)) matchPartsUptoCard

/-- THE SECOND FORM's CARD OF 'pouncelaw10.MatchUrls'. -/
def matchUrlsUptoCard : Claim7 := { stood := { row := matchUrlsUptoRow, standIns := [], harness := (true, "e85f1b6634fc2661fe1e276c8626348e7a642b5784d41602cc4b5e571490a67a"), looks := true }, kinds := [], alts := [], laidByText := true, laidKinds := [.data, .data, .data, .data, .sentinel, .sentinel, .data, .pinned], laidTests := true, laidLooks := .later }
def MatchUrlsUptoCardSaid : Prop := Claim7.holds Tryz.pinned (.plain (OpenSpec.upto matchUrlsSpec)) matchUrlsUptoCard

/-- THE SECOND FORM's CARD OF 'pouncelaw10.MatchMoved'. -/
def matchMovedUptoCard : Claim7 := { stood := { row := matchMovedUptoRow, standIns := [], harness := (true, "e85f1b6634fc2661fe1e276c8626348e7a642b5784d41602cc4b5e571490a67a"), looks := true }, kinds := [], alts := [], laidByText := true, laidKinds := [.data, .data, .data, .data, .sentinel, .sentinel, .data, .pinned], laidTests := true, laidLooks := .later }
def MatchMovedUptoCardSaid : Prop := Claim7.holds Tryz.pinned (.plain (OpenSpec.upto matchMovedSpec)) matchMovedUptoCard

/-- THE SECOND FORM's CARD OF 'pouncelaw10.MatchWide'. -/
def matchWideUptoCard : Claim7 := { stood := { row := matchWideUptoRow, standIns := [], harness := (true, "e85f1b6634fc2661fe1e276c8626348e7a642b5784d41602cc4b5e571490a67a"), looks := true }, kinds := [], alts := [], laidByText := true, laidKinds := [.data, .data, .data, .data, .sentinel, .sentinel, .data, .pinned], laidTests := true, laidLooks := .later }
def MatchWideUptoCardSaid : Prop := Claim7.holds Tryz.pinned (.plain (OpenSpec.upto matchWideSpec)) matchWideUptoCard

/-- THE SECOND FORM's CARD OF 'pouncelaw10.MatchSelf'. -/
def matchSelfUptoCard : Claim7 := { stood := { row := matchSelfUptoRow, standIns := [], harness := (true, "e85f1b6634fc2661fe1e276c8626348e7a642b5784d41602cc4b5e571490a67a"), looks := true }, kinds := [], alts := [], laidByText := true, laidKinds := [.data, .data, .data, .data, .sentinel, .sentinel, .data, .pinned], laidTests := true, laidLooks := .later }
def MatchSelfUptoCardSaid : Prop := Claim7.holds Tryz.pinned (.plain (OpenSpec.upto matchSelfSpec)) matchSelfUptoCard

/-- THE SECOND FORM's CARD OF 'pouncelaw10.MatchScheme'. -/
def matchSchemeUptoCard : Claim7 := { stood := { row := matchSchemeUptoRow, standIns := [], harness := (true, "e85f1b6634fc2661fe1e276c8626348e7a642b5784d41602cc4b5e571490a67a"), looks := true }, kinds := [], alts := [], laidByText := true, laidKinds := [.data, .data, .data, .data, .sentinel, .sentinel, .data, .pinned], laidTests := true, laidLooks := .later }
def MatchSchemeUptoCardSaid : Prop := Claim7.holds Tryz.pinned (.plain (OpenSpec.upto matchSchemeSpec)) matchSchemeUptoCard

/-- THE SECOND FORM's CARD OF 'pouncelaw10.MatchWilder'. -/
def matchWilderUptoCard : Claim7 := { stood := { row := matchWilderUptoRow, standIns := [], harness := (true, "e85f1b6634fc2661fe1e276c8626348e7a642b5784d41602cc4b5e571490a67a"), looks := true }, kinds := [], alts := [], laidByText := true, laidKinds := [.data, .data, .data, .data, .sentinel, .sentinel, .data, .pinned], laidTests := true, laidLooks := .later }
def MatchWilderUptoCardSaid : Prop := Claim7.holds Tryz.pinned (.plain (OpenSpec.upto matchWilderSpec)) matchWilderUptoCard
end Rows
end Go.Proofs.YtbeaheicjopooaaGreatDoor
