/-
  DERIVED. GIVEN WITH THE SEED: THE CARDS: each row of YtdndmbcejoodpaaDoorRows.lean that lists a variable, with what it lists TIED to the program's text (the seventh form; the later family's looks); each row that meets fmt, with fmt's text TOLD by the authors' own Lean function (tested against real Go, not proved from fmt's source: count such statements apart). THE CARD IS WHAT COUNTS. Prove the row's statement (the work); the ties are given (YtdndmbcejoodpaaDoorTie.lean); close each card by the builder's one call (the guide's Derived/Test/ToyasCard.lean, 'card_holds'). Laid BY PROGRAM, IN A SANDBOX (cutbox-door.mjs). By AI agents, Wed Nov 11 2026. No macro, syntax, notation, axiom, sorry.
-/
import Derived.Test.YtdndmbcejoodpaaDoorRows
import GoSem.ClaimSeven
namespace Go.Proofs.YtdndmbcejoodpaaDoor
namespace Rows

/-- THE TIED CARD OF 'foliotlaw05.ConfAddrs'. -/
def confAddrsCard : Claim7 := { stood := { row := confAddrsRow, standIns := [], harness := (true, "82426414d3665c295ea510b5e87b154d900f11424ae6c92ea8a3a5819708396f"), looks := true }, kinds := [], alts := [], laidByText := true, laidKinds := [.data, .data, .data, .data, .sentinel, .sentinel, .pinned], laidTests := true, laidLooks := .later }
def ConfAddrsCardSaid : Prop := Claim7.holds Tryd.pinned (.plain (OpenSpec.ofChange confAddrsSpec)) confAddrsCard

/-- THE SECOND FORM's CARD OF 'foliotlaw05.ConfAddrs'. -/
def confAddrsUptoCard : Claim7 := { stood := { row := confAddrsUptoRow, standIns := [], harness := (true, "82426414d3665c295ea510b5e87b154d900f11424ae6c92ea8a3a5819708396f"), looks := true }, kinds := [], alts := [], laidByText := true, laidKinds := [.data, .data, .data, .data, .sentinel, .sentinel, .pinned], laidTests := true, laidLooks := .later }
def ConfAddrsUptoCardSaid : Prop := Claim7.holds Tryd.pinned (.plain (OpenSpec.upto confAddrsSpec)) confAddrsUptoCard
end Rows
end Go.Proofs.YtdndmbcejoodpaaDoor
