/-
  DERIVED. GIVEN WITH THE SEED: THE CARDS: each row of YtbpijmmhgdemlaaDoorRows.lean that lists a variable, with what it lists TIED to the program's text (the seventh form; the later family's looks); each row that meets fmt, with fmt's text TOLD by the authors' own Lean function (tested against real Go, not proved from fmt's source: count such statements apart). THE CARD IS WHAT COUNTS. Prove the row's statement (the work); the ties are given (YtbpijmmhgdemlaaDoorTie.lean); close each card by the builder's one call (the guide's Derived/Test/ToyasCard.lean, 'card_holds'). Laid BY PROGRAM, IN A SANDBOX (cutbox-door.mjs). By AI agents, Wed Nov 11 2026. No macro, syntax, notation, axiom, sorry.
-/
import Derived.Test.YtbpijmmhgdemlaaDoorRows
import GoSem.ClaimSeven
namespace Go.Proofs.YtbpijmmhgdemlaaDoor
namespace Rows

/-- THE TIED CARD OF 'pouncelaw05.UrlCleans'. -/
def urlCleansCard : Claim7 := { stood := { row := urlCleansRow, standIns := [], harness := (true, "10a8ba1cecdd9b61f23e39e7659190d8da0a5c28b617aeb17f67d1f7fe4ecf19"), looks := true }, kinds := [], alts := [], laidByText := true, laidKinds := [.data, .data, .data, .data, .sentinel, .sentinel, .pinned], laidTests := true, laidLooks := .later }
def UrlCleansCardSaid : Prop := Claim7.holds Tryd.pinned (.plain (OpenSpec.ofChange urlCleansSpec)) urlCleansCard

/-- THE TIED CARD OF 'pouncelaw05.UrlLoose'. -/
def urlLooseCard : Claim7 := { stood := { row := urlLooseRow, standIns := [], harness := (true, "10a8ba1cecdd9b61f23e39e7659190d8da0a5c28b617aeb17f67d1f7fe4ecf19"), looks := true }, kinds := [], alts := [], laidByText := true, laidKinds := [.data, .data, .data, .data, .sentinel, .sentinel, .pinned], laidTests := true, laidLooks := .later }
def UrlLooseCardSaid : Prop := Claim7.holds Tryd.pinned (.plain (OpenSpec.ofChange urlLooseSpec)) urlLooseCard

/-- THE TIED CARD OF 'pouncelaw05.UrlCleanTwice'. -/
def urlCleanTwiceCard : Claim7 := { stood := { row := urlCleanTwiceRow, standIns := [], harness := (true, "10a8ba1cecdd9b61f23e39e7659190d8da0a5c28b617aeb17f67d1f7fe4ecf19"), looks := true }, kinds := [], alts := [], laidByText := true, laidKinds := [.data, .data, .data, .data, .sentinel, .sentinel, .pinned], laidTests := true, laidLooks := .later }
def UrlCleanTwiceCardSaid : Prop := Claim7.holds Tryd.pinned (.plain (OpenSpec.ofChange urlCleanTwiceSpec)) urlCleanTwiceCard

/-- THE TIED CARD OF 'pouncelaw05.UrlFront'. -/
def urlFrontCard : Claim7 := { stood := { row := urlFrontRow, standIns := [], harness := (true, "10a8ba1cecdd9b61f23e39e7659190d8da0a5c28b617aeb17f67d1f7fe4ecf19"), looks := true }, kinds := [], alts := [], laidByText := true, laidKinds := [.data, .data, .data, .data, .sentinel, .sentinel, .pinned], laidTests := true, laidLooks := .later }
def UrlFrontCardSaid : Prop := Claim7.holds Tryd.pinned (.plain (OpenSpec.ofChange urlFrontSpec)) urlFrontCard

/-- THE SECOND FORM's CARD OF 'pouncelaw05.UrlCleans'. -/
def urlCleansUptoCard : Claim7 := { stood := { row := urlCleansUptoRow, standIns := [], harness := (true, "10a8ba1cecdd9b61f23e39e7659190d8da0a5c28b617aeb17f67d1f7fe4ecf19"), looks := true }, kinds := [], alts := [], laidByText := true, laidKinds := [.data, .data, .data, .data, .sentinel, .sentinel, .pinned], laidTests := true, laidLooks := .later }
def UrlCleansUptoCardSaid : Prop := Claim7.holds Tryd.pinned (.plain (OpenSpec.upto urlCleansSpec)) urlCleansUptoCard

/-- THE SECOND FORM's CARD OF 'pouncelaw05.UrlLoose'. -/
def urlLooseUptoCard : Claim7 := { stood := { row := urlLooseUptoRow, standIns := [], harness := (true, "10a8ba1cecdd9b61f23e39e7659190d8da0a5c28b617aeb17f67d1f7fe4ecf19"), looks := true }, kinds := [], alts := [], laidByText := true, laidKinds := [.data, .data, .data, .data, .sentinel, .sentinel, .pinned], laidTests := true, laidLooks := .later }
def UrlLooseUptoCardSaid : Prop := Claim7.holds Tryd.pinned (.plain (OpenSpec.upto urlLooseSpec)) urlLooseUptoCard

/-- THE SECOND FORM's CARD OF 'pouncelaw05.UrlCleanTwice'. -/
def urlCleanTwiceUptoCard : Claim7 := { stood := { row := urlCleanTwiceUptoRow, standIns := [], harness := (true, "10a8ba1cecdd9b61f23e39e7659190d8da0a5c28b617aeb17f67d1f7fe4ecf19"), looks := true }, kinds := [], alts := [], laidByText := true, laidKinds := [.data, .data, .data, .data, .sentinel, .sentinel, .pinned], laidTests := true, laidLooks := .later }
def UrlCleanTwiceUptoCardSaid : Prop := Claim7.holds Tryd.pinned (.plain (OpenSpec.upto urlCleanTwiceSpec)) urlCleanTwiceUptoCard

/-- THE SECOND FORM's CARD OF 'pouncelaw05.UrlFront'. -/
def urlFrontUptoCard : Claim7 := { stood := { row := urlFrontUptoRow, standIns := [], harness := (true, "10a8ba1cecdd9b61f23e39e7659190d8da0a5c28b617aeb17f67d1f7fe4ecf19"), looks := true }, kinds := [], alts := [], laidByText := true, laidKinds := [.data, .data, .data, .data, .sentinel, .sentinel, .pinned], laidTests := true, laidLooks := .later }
def UrlFrontUptoCardSaid : Prop := Claim7.holds Tryd.pinned (.plain (OpenSpec.upto urlFrontSpec)) urlFrontUptoCard
end Rows
end Go.Proofs.YtbpijmmhgdemlaaDoor
