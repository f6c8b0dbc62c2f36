/-
  DERIVED. GIVEN WITH THE SEED: THE CARDS: each row of YtbpijmmhgdemlaaGreatDoorRows.lean that lists a variable, with what it lists TIED to the program's text (the seventh form; the later family's looks); each row that meets fmt, with fmt's text TOLD by the authors' own Lean function (tested against real Go, not proved from fmt's source: count such statements apart). THE CARD IS WHAT COUNTS. Prove the row's statement (the work); the ties are given (YtbpijmmhgdemlaaGreatDoorTie.lean); close each card by the builder's one call (the guide's Derived/Test/ToyasCard.lean, 'card_holds'). Laid BY PROGRAM, IN A SANDBOX (cutbox-door.mjs). By AI agents, Wed Nov 11 2026. No macro, syntax, notation, axiom, sorry.
-/
import Derived.Test.YtbpijmmhgdemlaaGreatDoorRows
import GoSem.ClaimSeven
namespace Go.Proofs.YtbpijmmhgdemlaaGreatDoor
namespace Rows

/-- THE TIED CARD OF 'pouncelaw05.UrlParses'. -/
def urlParsesCard : Claim7 := { stood := { row := urlParsesRow, standIns := [], harness := (true, "3714bfe6ef412317b86ccd5377e1dce2629e73ccd139a91acd375e25a8c549ae"), looks := true }, kinds := [], alts := [], laidByText := true, laidKinds := [.data, .data, .data, .data, .sentinel, .sentinel, .pinned], laidTests := true, laidLooks := .later }
def UrlParsesCardSaid : Prop := Claim7.holds Tryz.pinned (.plain (OpenSpec.ofChange urlParsesSpec)) urlParsesCard

/-- THE TIED CARD OF 'pouncelaw05.UrlPrints'. -/
def urlPrintsCard : Claim7 := { stood := { row := urlPrintsRow, standIns := [], harness := (true, "3714bfe6ef412317b86ccd5377e1dce2629e73ccd139a91acd375e25a8c549ae"), looks := true }, kinds := [], alts := [], laidByText := true, laidKinds := [.data, .data, .data, .data, .sentinel, .sentinel, .pinned], laidTests := true, laidLooks := .later }
def UrlPrintsCardSaid : Prop := Claim7.holds Tryz.pinned (.plain (OpenSpec.ofChange urlPrintsSpec)) urlPrintsCard

/-- THE TIED CARD OF 'pouncelaw07.OriginOf'. -/
def originOfCard : Claim7 := { stood := { row := originOfRow, standIns := [], harness := (true, "3714bfe6ef412317b86ccd5377e1dce2629e73ccd139a91acd375e25a8c549ae"), looks := true }, kinds := [], alts := [], laidByText := true, laidKinds := [.data, .data, .data, .data, .sentinel, .sentinel, .pinned], laidTests := true, laidLooks := .later }
def OriginOfCardSaid : Prop := Claim7.holds Tryz.pinned (.plain (OpenSpec.ofChange originOfSpec)) originOfCard

/-- THE TIED CARD OF 'pouncelaw07.OriginSame'. -/
def originSameCard : Claim7 := { stood := { row := originSameRow, standIns := [], harness := (true, "3714bfe6ef412317b86ccd5377e1dce2629e73ccd139a91acd375e25a8c549ae"), looks := true }, kinds := [], alts := [], laidByText := true, laidKinds := [.data, .data, .data, .data, .sentinel, .sentinel, .pinned], laidTests := true, laidLooks := .later }
def OriginSameCardSaid : Prop := Claim7.holds Tryz.pinned (.plain (OpenSpec.ofChange originSameSpec)) originSameCard

/-- THE TIED CARD OF 'pouncelaw07.OriginApart'. -/
def originApartCard : Claim7 := { stood := { row := originApartRow, standIns := [], harness := (true, "3714bfe6ef412317b86ccd5377e1dce2629e73ccd139a91acd375e25a8c549ae"), looks := true }, kinds := [], alts := [], laidByText := true, laidKinds := [.data, .data, .data, .data, .sentinel, .sentinel, .pinned], laidTests := true, laidLooks := .later }
def OriginApartCardSaid : Prop := Claim7.holds Tryz.pinned (.plain (OpenSpec.ofChange originApartSpec)) originApartCard

/-- THE TIED CARD OF 'pouncelaw07.OriginTexts'. -/
def originTextsCard : Claim7 := { stood := { row := originTextsRow, standIns := [], harness := (true, "3714bfe6ef412317b86ccd5377e1dce2629e73ccd139a91acd375e25a8c549ae"), looks := true }, kinds := [], alts := [], laidByText := true, laidKinds := [.data, .data, .data, .data, .sentinel, .sentinel, .pinned], laidTests := true, laidLooks := .later }
def OriginTextsCardSaid : Prop := Claim7.holds Tryz.pinned (.plain (OpenSpec.ofChange originTextsSpec)) originTextsCard

/-- THE TIED CARD OF 'pouncelaw07.OriginSecure'. -/
def originSecureCard : Claim7 := { stood := { row := originSecureRow, standIns := [], harness := (true, "3714bfe6ef412317b86ccd5377e1dce2629e73ccd139a91acd375e25a8c549ae"), looks := true }, kinds := [], alts := [], laidByText := true, laidKinds := [.data, .data, .data, .data, .sentinel, .sentinel, .pinned], laidTests := true, laidLooks := .later }
def OriginSecureCardSaid : Prop := Claim7.holds Tryz.pinned (.plain (OpenSpec.ofChange originSecureSpec)) originSecureCard

/-- THE TIED CARD OF 'pouncelaw06.ResolveJoins'. -/
def resolveJoinsCard : Claim7 := { stood := { row := resolveJoinsRow, standIns := [], harness := (true, "3714bfe6ef412317b86ccd5377e1dce2629e73ccd139a91acd375e25a8c549ae"), looks := true }, kinds := [], alts := [], laidByText := true, laidKinds := [.data, .data, .data, .data, .sentinel, .sentinel, .pinned], laidTests := true, laidLooks := .later }
def ResolveJoinsCardSaid : Prop := Claim7.holds Tryz.pinned (.plain (OpenSpec.ofChange resolveJoinsSpec)) resolveJoinsCard

/-- THE TIED CARD OF 'pouncelaw06.ResolveRight'. -/
def resolveRightCard : Claim7 := { stood := { row := resolveRightRow, standIns := [], harness := (true, "3714bfe6ef412317b86ccd5377e1dce2629e73ccd139a91acd375e25a8c549ae"), looks := true }, kinds := [], alts := [], laidByText := true, laidKinds := [.data, .data, .data, .data, .sentinel, .sentinel, .pinned], laidTests := true, laidLooks := .later }
def ResolveRightCardSaid : Prop := Claim7.holds Tryz.pinned (.plain (OpenSpec.ofChange resolveRightSpec)) resolveRightCard

/-- THE TIED CARD OF 'pouncelaw06.ResolveFolder'. -/
def resolveFolderCard : Claim7 := { stood := { row := resolveFolderRow, standIns := [], harness := (true, "3714bfe6ef412317b86ccd5377e1dce2629e73ccd139a91acd375e25a8c549ae"), looks := true }, kinds := [], alts := [], laidByText := true, laidKinds := [.data, .data, .data, .data, .sentinel, .sentinel, .pinned], laidTests := true, laidLooks := .later }
def ResolveFolderCardSaid : Prop := Claim7.holds Tryz.pinned (.plain (OpenSpec.ofChange resolveFolderSpec)) resolveFolderCard

/-- THE TIED CARD OF 'pouncelaw06.ResolveTwice'. -/
def resolveTwiceCard : Claim7 := { stood := { row := resolveTwiceRow, standIns := [], harness := (true, "3714bfe6ef412317b86ccd5377e1dce2629e73ccd139a91acd375e25a8c549ae"), looks := true }, kinds := [], alts := [], laidByText := true, laidKinds := [.data, .data, .data, .data, .sentinel, .sentinel, .pinned], laidTests := true, laidLooks := .later }
def ResolveTwiceCardSaid : Prop := Claim7.holds Tryz.pinned (.plain (OpenSpec.ofChange resolveTwiceSpec)) resolveTwiceCard

/-- THE TIED CARD OF 'pouncelaw10.MatchParts'. -/
def matchPartsCard : Claim7 := { stood := { row := matchPartsRow, standIns := [], harness := (true, "3714bfe6ef412317b86ccd5377e1dce2629e73ccd139a91acd375e25a8c549ae"), looks := true }, kinds := [], alts := [], laidByText := true, laidKinds := [.data, .data, .data, .data, .sentinel, .sentinel, .data, .pinned], laidTests := true, laidLooks := .later }
def MatchPartsCardSaid : Prop := Claim7.holds Tryz.pinned (.plain (OpenSpec.ofChange matchPartsSpec)) matchPartsCard

/-- THE TIED CARD OF 'pouncelaw10.MatchUrls'. -/
def matchUrlsCard : Claim7 := { stood := { row := matchUrlsRow, standIns := [], harness := (true, "3714bfe6ef412317b86ccd5377e1dce2629e73ccd139a91acd375e25a8c549ae"), looks := true }, kinds := [], alts := [], laidByText := true, laidKinds := [.data, .data, .data, .data, .sentinel, .sentinel, .data, .pinned], laidTests := true, laidLooks := .later }
def MatchUrlsCardSaid : Prop := Claim7.holds Tryz.pinned (.plain (OpenSpec.ofChange matchUrlsSpec)) matchUrlsCard

/-- THE TIED CARD OF 'pouncelaw10.MatchMoved'. -/
def matchMovedCard : Claim7 := { stood := { row := matchMovedRow, standIns := [], harness := (true, "3714bfe6ef412317b86ccd5377e1dce2629e73ccd139a91acd375e25a8c549ae"), looks := true }, kinds := [], alts := [], laidByText := true, laidKinds := [.data, .data, .data, .data, .sentinel, .sentinel, .data, .pinned], laidTests := true, laidLooks := .later }
def MatchMovedCardSaid : Prop := Claim7.holds Tryz.pinned (.plain (OpenSpec.ofChange matchMovedSpec)) matchMovedCard

/-- THE TIED CARD OF 'pouncelaw10.MatchWide'. -/
def matchWideCard : Claim7 := { stood := { row := matchWideRow, standIns := [], harness := (true, "3714bfe6ef412317b86ccd5377e1dce2629e73ccd139a91acd375e25a8c549ae"), looks := true }, kinds := [], alts := [], laidByText := true, laidKinds := [.data, .data, .data, .data, .sentinel, .sentinel, .data, .pinned], laidTests := true, laidLooks := .later }
def MatchWideCardSaid : Prop := Claim7.holds Tryz.pinned (.plain (OpenSpec.ofChange matchWideSpec)) matchWideCard

/-- THE TIED CARD OF 'pouncelaw10.MatchSelf'. -/
def matchSelfCard : Claim7 := { stood := { row := matchSelfRow, standIns := [], harness := (true, "3714bfe6ef412317b86ccd5377e1dce2629e73ccd139a91acd375e25a8c549ae"), looks := true }, kinds := [], alts := [], laidByText := true, laidKinds := [.data, .data, .data, .data, .sentinel, .sentinel, .data, .pinned], laidTests := true, laidLooks := .later }
def MatchSelfCardSaid : Prop := Claim7.holds Tryz.pinned (.plain (OpenSpec.ofChange matchSelfSpec)) matchSelfCard

/-- THE TIED CARD OF 'pouncelaw10.MatchScheme'. -/
def matchSchemeCard : Claim7 := { stood := { row := matchSchemeRow, standIns := [], harness := (true, "3714bfe6ef412317b86ccd5377e1dce2629e73ccd139a91acd375e25a8c549ae"), looks := true }, kinds := [], alts := [], laidByText := true, laidKinds := [.data, .data, .data, .data, .sentinel, .sentinel, .data, .pinned], laidTests := true, laidLooks := .later }
def MatchSchemeCardSaid : Prop := Claim7.holds Tryz.pinned (.plain (OpenSpec.ofChange matchSchemeSpec)) matchSchemeCard

/-- THE TIED CARD OF 'pouncelaw10.MatchWilder'. -/
def matchWilderCard : Claim7 := { stood := { row := matchWilderRow, standIns := [], harness := (true, "3714bfe6ef412317b86ccd5377e1dce2629e73ccd139a91acd375e25a8c549ae"), looks := true }, kinds := [], alts := [], laidByText := true, laidKinds := [.data, .data, .data, .data, .sentinel, .sentinel, .data, .pinned], laidTests := true, laidLooks := .later }
def MatchWilderCardSaid : Prop := Claim7.holds Tryz.pinned (.plain (OpenSpec.ofChange matchWilderSpec)) matchWilderCard

/-- THE SECOND FORM's CARD OF 'pouncelaw05.UrlParses'. -/
def urlParsesUptoCard : Claim7 := { stood := { row := urlParsesUptoRow, standIns := [], harness := (true, "3714bfe6ef412317b86ccd5377e1dce2629e73ccd139a91acd375e25a8c549ae"), looks := true }, kinds := [], alts := [], laidByText := true, laidKinds := [.data, .data, .data, .data, .sentinel, .sentinel, .pinned], laidTests := true, laidLooks := .later }
def UrlParsesUptoCardSaid : Prop := Claim7.holds Tryz.pinned (.plain (OpenSpec.upto urlParsesSpec)) urlParsesUptoCard

/-- THE SECOND FORM's CARD OF 'pouncelaw05.UrlPrints'. -/
def urlPrintsUptoCard : Claim7 := { stood := { row := urlPrintsUptoRow, standIns := [], harness := (true, "3714bfe6ef412317b86ccd5377e1dce2629e73ccd139a91acd375e25a8c549ae"), looks := true }, kinds := [], alts := [], laidByText := true, laidKinds := [.data, .data, .data, .data, .sentinel, .sentinel, .pinned], laidTests := true, laidLooks := .later }
def UrlPrintsUptoCardSaid : Prop := Claim7.holds Tryz.pinned (.plain (OpenSpec.upto urlPrintsSpec)) urlPrintsUptoCard

/-- THE SECOND FORM's CARD OF 'pouncelaw07.OriginOf'. -/
def originOfUptoCard : Claim7 := { stood := { row := originOfUptoRow, standIns := [], harness := (true, "3714bfe6ef412317b86ccd5377e1dce2629e73ccd139a91acd375e25a8c549ae"), looks := true }, kinds := [], alts := [], laidByText := true, laidKinds := [.data, .data, .data, .data, .sentinel, .sentinel, .pinned], laidTests := true, laidLooks := .later }
def OriginOfUptoCardSaid : Prop := Claim7.holds Tryz.pinned (.plain (OpenSpec.upto originOfSpec)) originOfUptoCard

/-- THE SECOND FORM's CARD OF 'pouncelaw07.OriginSame'. -/
def originSameUptoCard : Claim7 := { stood := { row := originSameUptoRow, standIns := [], harness := (true, "3714bfe6ef412317b86ccd5377e1dce2629e73ccd139a91acd375e25a8c549ae"), looks := true }, kinds := [], alts := [], laidByText := true, laidKinds := [.data, .data, .data, .data, .sentinel, .sentinel, .pinned], laidTests := true, laidLooks := .later }
def OriginSameUptoCardSaid : Prop := Claim7.holds Tryz.pinned (.plain (OpenSpec.upto originSameSpec)) originSameUptoCard

/-- THE SECOND FORM's CARD OF 'pouncelaw07.OriginApart'. -/
def originApartUptoCard : Claim7 := { stood := { row := originApartUptoRow, standIns := [], harness := (true, "3714bfe6ef412317b86ccd5377e1dce2629e73ccd139a91acd375e25a8c549ae"), looks := true }, kinds := [], alts := [], laidByText := true, laidKinds := [.data, .data, .data, .data, .sentinel, .sentinel, .pinned], laidTests := true, laidLooks := .later }
def OriginApartUptoCardSaid : Prop := Claim7.holds Tryz.pinned (.plain (OpenSpec.upto originApartSpec)) originApartUptoCard

/-- THE SECOND FORM's CARD OF 'pouncelaw07.OriginTexts'. -/
def originTextsUptoCard : Claim7 := { stood := { row := originTextsUptoRow, standIns := [], harness := (true, "3714bfe6ef412317b86ccd5377e1dce2629e73ccd139a91acd375e25a8c549ae"), looks := true }, kinds := [], alts := [], laidByText := true, laidKinds := [.data, .data, .data, .data, .sentinel, .sentinel, .pinned], laidTests := true, laidLooks := .later }
def OriginTextsUptoCardSaid : Prop := Claim7.holds Tryz.pinned (.plain (OpenSpec.upto originTextsSpec)) originTextsUptoCard

/-- THE SECOND FORM's CARD OF 'pouncelaw07.OriginSecure'. -/
def originSecureUptoCard : Claim7 := { stood := { row := originSecureUptoRow, standIns := [], harness := (true, "3714bfe6ef412317b86ccd5377e1dce2629e73ccd139a91acd375e25a8c549ae"), looks := true }, kinds := [], alts := [], laidByText := true, laidKinds := [.data, .data, .data, .data, .sentinel, .sentinel, .pinned], laidTests := true, laidLooks := .later }
def OriginSecureUptoCardSaid : Prop := Claim7.holds Tryz.pinned (.plain (OpenSpec.upto originSecureSpec)) originSecureUptoCard

/-- THE SECOND FORM's CARD OF 'pouncelaw06.ResolveJoins'. -/
def resolveJoinsUptoCard : Claim7 := { stood := { row := resolveJoinsUptoRow, standIns := [], harness := (true, "3714bfe6ef412317b86ccd5377e1dce2629e73ccd139a91acd375e25a8c549ae"), looks := true }, kinds := [], alts := [], laidByText := true, laidKinds := [.data, .data, .data, .data, .sentinel, .sentinel, .pinned], laidTests := true, laidLooks := .later }
def ResolveJoinsUptoCardSaid : Prop := Claim7.holds Tryz.pinned (.plain (OpenSpec.upto resolveJoinsSpec)) resolveJoinsUptoCard

/-- THE SECOND FORM's CARD OF 'pouncelaw06.ResolveRight'. -/
def resolveRightUptoCard : Claim7 := { stood := { row := resolveRightUptoRow, standIns := [], harness := (true, "3714bfe6ef412317b86ccd5377e1dce2629e73ccd139a91acd375e25a8c549ae"), looks := true }, kinds := [], alts := [], laidByText := true, laidKinds := [.data, .data, .data, .data, .sentinel, .sentinel, .pinned], laidTests := true, laidLooks := .later }
def ResolveRightUptoCardSaid : Prop := Claim7.holds Tryz.pinned (.plain (OpenSpec.upto resolveRightSpec)) resolveRightUptoCard

/-- THE SECOND FORM's CARD OF 'pouncelaw06.ResolveFolder'. -/
def resolveFolderUptoCard : Claim7 := { stood := { row := resolveFolderUptoRow, standIns := [], harness := (true, "3714bfe6ef412317b86ccd5377e1dce2629e73ccd139a91acd375e25a8c549ae"), looks := true }, kinds := [], alts := [], laidByText := true, laidKinds := [.data, .data, .data, .data, .sentinel, .sentinel, .pinned], laidTests := true, laidLooks := .later }
def ResolveFolderUptoCardSaid : Prop := Claim7.holds Tryz.pinned (.plain (OpenSpec.upto resolveFolderSpec)) resolveFolderUptoCard

/-- THE SECOND FORM's CARD OF 'pouncelaw06.ResolveTwice'. -/
def resolveTwiceUptoCard : Claim7 := { stood := { row := resolveTwiceUptoRow, standIns := [], harness := (true, "3714bfe6ef412317b86ccd5377e1dce2629e73ccd139a91acd375e25a8c549ae"), looks := true }, kinds := [], alts := [], laidByText := true, laidKinds := [.data, .data, .data, .data, .sentinel, .sentinel, .pinned], laidTests := true, laidLooks := .later }
def ResolveTwiceUptoCardSaid : Prop := Claim7.holds Tryz.pinned (.plain (OpenSpec.upto resolveTwiceSpec)) resolveTwiceUptoCard

/-- THE SECOND FORM's CARD OF 'pouncelaw10.MatchParts'. -/
def matchPartsUptoCard : Claim7 := { stood := { row := matchPartsUptoRow, standIns := [], harness := (true, "3714bfe6ef412317b86ccd5377e1dce2629e73ccd139a91acd375e25a8c549ae"), looks := true }, kinds := [], alts := [], laidByText := true, laidKinds := [.data, .data, .data, .data, .sentinel, .sentinel, .data, .pinned], laidTests := true, laidLooks := .later }
def MatchPartsUptoCardSaid : Prop := Claim7.holds Tryz.pinned (.plain (OpenSpec.upto matchPartsSpec)) matchPartsUptoCard

/-- THE SECOND FORM's CARD OF 'pouncelaw10.MatchUrls'. -/
def matchUrlsUptoCard : Claim7 := { stood := { row := matchUrlsUptoRow, standIns := [], harness := (true, "3714bfe6ef412317b86ccd5377e1dce2629e73ccd139a91acd375e25a8c549ae"), looks := true }, kinds := [], alts := [], laidByText := true, laidKinds := [.data, .data, .data, .data, .sentinel, .sentinel, .data, .pinned], laidTests := true, laidLooks := .later }
def MatchUrlsUptoCardSaid : Prop := Claim7.holds Tryz.pinned (.plain (OpenSpec.upto matchUrlsSpec)) matchUrlsUptoCard

/-- THE SECOND FORM's CARD OF 'pouncelaw10.MatchMoved'. -/
def matchMovedUptoCard : Claim7 := { stood := { row := matchMovedUptoRow, standIns := [], harness := (true, "3714bfe6ef412317b86ccd5377e1dce2629e73ccd139a91acd375e25a8c549ae"), looks := true }, kinds := [], alts := [], laidByText := true, laidKinds := [.data, .data, .data, .data, .sentinel, .sentinel, .data, .pinned], laidTests := true, laidLooks := .later }
def MatchMovedUptoCardSaid : Prop := Claim7.holds Tryz.pinned (.plain (OpenSpec.upto matchMovedSpec)) matchMovedUptoCard

/-- THE SECOND FORM's CARD OF 'pouncelaw10.MatchWide'. -/
def matchWideUptoCard : Claim7 := { stood := { row := matchWideUptoRow, standIns := [], harness := (true, "3714bfe6ef412317b86ccd5377e1dce2629e73ccd139a91acd375e25a8c549ae"), looks := true }, kinds := [], alts := [], laidByText := true, laidKinds := [.data, .data, .data, .data, .sentinel, .sentinel, .data, .pinned], laidTests := true, laidLooks := .later }
def MatchWideUptoCardSaid : Prop := Claim7.holds Tryz.pinned (.plain (OpenSpec.upto matchWideSpec)) matchWideUptoCard

/-- THE SECOND FORM's CARD OF 'pouncelaw10.MatchSelf'. -/
def matchSelfUptoCard : Claim7 := { stood := { row := matchSelfUptoRow, standIns := [], harness := (true, "3714bfe6ef412317b86ccd5377e1dce2629e73ccd139a91acd375e25a8c549ae"), looks := true }, kinds := [], alts := [], laidByText := true, laidKinds := [.data, .data, .data, .data, .sentinel, .sentinel, .data, .pinned], laidTests := true, laidLooks := .later }
def MatchSelfUptoCardSaid : Prop := Claim7.holds Tryz.pinned (.plain (OpenSpec.upto matchSelfSpec)) matchSelfUptoCard

/-- THE SECOND FORM's CARD OF 'pouncelaw10.MatchScheme'. -/
def matchSchemeUptoCard : Claim7 := { stood := { row := matchSchemeUptoRow, standIns := [], harness := (true, "3714bfe6ef412317b86ccd5377e1dce2629e73ccd139a91acd375e25a8c549ae"), looks := true }, kinds := [], alts := [], laidByText := true, laidKinds := [.data, .data, .data, .data, .sentinel, .sentinel, .data, .pinned], laidTests := true, laidLooks := .later }
def MatchSchemeUptoCardSaid : Prop := Claim7.holds Tryz.pinned (.plain (OpenSpec.upto matchSchemeSpec)) matchSchemeUptoCard

/-- THE SECOND FORM's CARD OF 'pouncelaw10.MatchWilder'. -/
def matchWilderUptoCard : Claim7 := { stood := { row := matchWilderUptoRow, standIns := [], harness := (true, "3714bfe6ef412317b86ccd5377e1dce2629e73ccd139a91acd375e25a8c549ae"), looks := true }, kinds := [], alts := [], laidByText := true, laidKinds := [.data, .data, .data, .data, .sentinel, .sentinel, .data, .pinned], laidTests := true, laidLooks := .later }
def MatchWilderUptoCardSaid : Prop := Claim7.holds Tryz.pinned (.plain (OpenSpec.upto matchWilderSpec)) matchWilderUptoCard
end Rows
end Go.Proofs.YtbpijmmhgdemlaaGreatDoor
