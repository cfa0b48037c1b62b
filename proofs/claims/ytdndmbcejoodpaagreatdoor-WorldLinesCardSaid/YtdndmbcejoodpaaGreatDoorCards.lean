/-
  DERIVED. GIVEN WITH THE SEED: THE CARDS: each row of YtdndmbcejoodpaaGreatDoorRows.lean that lists a variable, with what it lists TIED to the program's text (the seventh form; the later family's looks); each row that meets fmt, with fmt's text TOLD by the authors' own Lean function (tested against real Go, not proved from fmt's source: count such statements apart). THE CARD IS WHAT COUNTS. Prove the row's statement (the work); the ties are given (YtdndmbcejoodpaaGreatDoorTie.lean); close each card by the builder's one call (the guide's Derived/Test/ToyasCard.lean, 'card_holds'). Laid BY PROGRAM, IN A SANDBOX (cutbox-door.mjs). By AI agents, Wed Nov 11 2026. No macro, syntax, notation, axiom, sorry.
-/
import Derived.Test.YtdndmbcejoodpaaGreatDoorRows
import GoSem.ClaimSeven
namespace Go.Proofs.YtdndmbcejoodpaaGreatDoor
namespace Rows

/-- THE TIED CARD OF 'foliotlaw20.WorldBack'. -/
def worldBackCard : Claim7 := { stood := { row := worldBackRow, standIns := [], harness := (true, "84e537b94515cca938e5c2b4075760ac6ac3847a5a0ec37809c930105179a77c"), looks := true }, kinds := [], alts := [], laidByText := true, laidKinds := [.data, .data, .data, .data, .sentinel, .sentinel, .pinned], laidTests := true, laidLooks := .later }
def WorldBackCardSaid : Prop := Claim7.holds Tryz.pinned (.plain (OpenSpec.ofChange worldBackSpec)) worldBackCard

/-- THE TIED CARD OF 'foliotlaw20.WorldLines'. -/
def worldLinesCard : Claim7 := { stood := { row := worldLinesRow, standIns := [], harness := (true, "84e537b94515cca938e5c2b4075760ac6ac3847a5a0ec37809c930105179a77c"), looks := true }, kinds := [], alts := [], laidByText := true, laidKinds := [.data, .data, .data, .data, .sentinel, .sentinel, .pinned], laidTests := true, laidLooks := .later }
def WorldLinesCardSaid : Prop := Claim7.holds Tryz.pinned (.plain (OpenSpec.ofChange worldLinesSpec)) worldLinesCard

/-- THE TIED CARD OF 'foliotlaw05.ConfOnce'. -/
def confOnceCard : Claim7 := { stood := { row := confOnceRow, standIns := [], harness := (true, "84e537b94515cca938e5c2b4075760ac6ac3847a5a0ec37809c930105179a77c"), looks := true }, kinds := [], alts := [], laidByText := true, laidKinds := [.data, .data, .data, .data, .sentinel, .sentinel, .pinned, .pinned], laidTests := true, laidLooks := .later }
def ConfOnceCardSaid : Prop := Claim7.holds Tryz.pinned (.plain (OpenSpec.ofChange confOnceSpec)) confOnceCard

/-- THE TIED CARD OF 'foliotlaw05.ConfParses'. -/
def confParsesCard : Claim7 := { stood := { row := confParsesRow, standIns := [], harness := (true, "84e537b94515cca938e5c2b4075760ac6ac3847a5a0ec37809c930105179a77c"), looks := true }, kinds := [], alts := [], laidByText := true, laidKinds := [.data, .data, .data, .data, .sentinel, .sentinel, .pinned, .pinned], laidTests := true, laidLooks := .later }
def ConfParsesCardSaid : Prop := Claim7.holds Tryz.pinned (.plain (OpenSpec.ofChange confParsesSpec)) confParsesCard

/-- THE TIED CARD OF 'foliotlaw05.ConfLines'. -/
def confLinesCard : Claim7 := { stood := { row := confLinesRow, standIns := [], harness := (true, "84e537b94515cca938e5c2b4075760ac6ac3847a5a0ec37809c930105179a77c"), looks := true }, kinds := [], alts := [], laidByText := true, laidKinds := [.data, .data, .data, .data, .sentinel, .sentinel, .pinned, .pinned], laidTests := true, laidLooks := .later }
def ConfLinesCardSaid : Prop := Claim7.holds Tryz.pinned (.plain (OpenSpec.ofChange confLinesSpec)) confLinesCard

/-- THE TIED CARD OF 'foliotlaw05.ConfBack'. -/
def confBackCard : Claim7 := { stood := { row := confBackRow, standIns := [], harness := (true, "84e537b94515cca938e5c2b4075760ac6ac3847a5a0ec37809c930105179a77c"), looks := true }, kinds := [], alts := [], laidByText := true, laidKinds := [.data, .data, .data, .data, .sentinel, .sentinel, .pinned, .pinned], laidTests := true, laidLooks := .later }
def ConfBackCardSaid : Prop := Claim7.holds Tryz.pinned (.plain (OpenSpec.ofChange confBackSpec)) confBackCard

/-- THE TIED CARD OF 'foliotlaw05.ConfCanon'. -/
def confCanonCard : Claim7 := { stood := { row := confCanonRow, standIns := [], harness := (true, "84e537b94515cca938e5c2b4075760ac6ac3847a5a0ec37809c930105179a77c"), looks := true }, kinds := [], alts := [], laidByText := true, laidKinds := [.data, .data, .data, .data, .sentinel, .sentinel, .pinned, .pinned], laidTests := true, laidLooks := .later }
def ConfCanonCardSaid : Prop := Claim7.holds Tryz.pinned (.plain (OpenSpec.ofChange confCanonSpec)) confCanonCard

/-- THE SECOND FORM's CARD OF 'foliotlaw20.WorldBack'. -/
def worldBackUptoCard : Claim7 := { stood := { row := worldBackUptoRow, standIns := [], harness := (true, "84e537b94515cca938e5c2b4075760ac6ac3847a5a0ec37809c930105179a77c"), looks := true }, kinds := [], alts := [], laidByText := true, laidKinds := [.data, .data, .data, .data, .sentinel, .sentinel, .pinned], laidTests := true, laidLooks := .later }
def WorldBackUptoCardSaid : Prop := Claim7.holds Tryz.pinned (.plain (OpenSpec.upto worldBackSpec)) worldBackUptoCard

/-- THE SECOND FORM's CARD OF 'foliotlaw20.WorldLines'. -/
def worldLinesUptoCard : Claim7 := { stood := { row := worldLinesUptoRow, standIns := [], harness := (true, "84e537b94515cca938e5c2b4075760ac6ac3847a5a0ec37809c930105179a77c"), looks := true }, kinds := [], alts := [], laidByText := true, laidKinds := [.data, .data, .data, .data, .sentinel, .sentinel, .pinned], laidTests := true, laidLooks := .later }
def WorldLinesUptoCardSaid : Prop := Claim7.holds Tryz.pinned (.plain (OpenSpec.upto worldLinesSpec)) worldLinesUptoCard

/-- THE SECOND FORM's CARD OF 'foliotlaw05.ConfOnce'. -/
def confOnceUptoCard : Claim7 := { stood := { row := confOnceUptoRow, standIns := [], harness := (true, "84e537b94515cca938e5c2b4075760ac6ac3847a5a0ec37809c930105179a77c"), looks := true }, kinds := [], alts := [], laidByText := true, laidKinds := [.data, .data, .data, .data, .sentinel, .sentinel, .pinned, .pinned], laidTests := true, laidLooks := .later }
def ConfOnceUptoCardSaid : Prop := Claim7.holds Tryz.pinned (.plain (OpenSpec.upto confOnceSpec)) confOnceUptoCard

/-- THE SECOND FORM's CARD OF 'foliotlaw05.ConfParses'. -/
def confParsesUptoCard : Claim7 := { stood := { row := confParsesUptoRow, standIns := [], harness := (true, "84e537b94515cca938e5c2b4075760ac6ac3847a5a0ec37809c930105179a77c"), looks := true }, kinds := [], alts := [], laidByText := true, laidKinds := [.data, .data, .data, .data, .sentinel, .sentinel, .pinned, .pinned], laidTests := true, laidLooks := .later }
def ConfParsesUptoCardSaid : Prop := Claim7.holds Tryz.pinned (.plain (OpenSpec.upto confParsesSpec)) confParsesUptoCard

/-- THE SECOND FORM's CARD OF 'foliotlaw05.ConfLines'. -/
def confLinesUptoCard : Claim7 := { stood := { row := confLinesUptoRow, standIns := [], harness := (true, "84e537b94515cca938e5c2b4075760ac6ac3847a5a0ec37809c930105179a77c"), looks := true }, kinds := [], alts := [], laidByText := true, laidKinds := [.data, .data, .data, .data, .sentinel, .sentinel, .pinned, .pinned], laidTests := true, laidLooks := .later }
def ConfLinesUptoCardSaid : Prop := Claim7.holds Tryz.pinned (.plain (OpenSpec.upto confLinesSpec)) confLinesUptoCard

/-- THE SECOND FORM's CARD OF 'foliotlaw05.ConfBack'. -/
def confBackUptoCard : Claim7 := { stood := { row := confBackUptoRow, standIns := [], harness := (true, "84e537b94515cca938e5c2b4075760ac6ac3847a5a0ec37809c930105179a77c"), looks := true }, kinds := [], alts := [], laidByText := true, laidKinds := [.data, .data, .data, .data, .sentinel, .sentinel, .pinned, .pinned], laidTests := true, laidLooks := .later }
def ConfBackUptoCardSaid : Prop := Claim7.holds Tryz.pinned (.plain (OpenSpec.upto confBackSpec)) confBackUptoCard

/-- THE SECOND FORM's CARD OF 'foliotlaw05.ConfCanon'. -/
def confCanonUptoCard : Claim7 := { stood := { row := confCanonUptoRow, standIns := [], harness := (true, "84e537b94515cca938e5c2b4075760ac6ac3847a5a0ec37809c930105179a77c"), looks := true }, kinds := [], alts := [], laidByText := true, laidKinds := [.data, .data, .data, .data, .sentinel, .sentinel, .pinned, .pinned], laidTests := true, laidLooks := .later }
def ConfCanonUptoCardSaid : Prop := Claim7.holds Tryz.pinned (.plain (OpenSpec.upto confCanonSpec)) confCanonUptoCard
end Rows
end Go.Proofs.YtdndmbcejoodpaaGreatDoor
