/-
  DERIVED. GIVEN WITH THE SEED: THE CARDS: each row of YtncdiodnbkhacaaDoorRows.lean that lists a variable, with what it lists TIED to the program's text (the seventh form; the later family's looks); each row that meets fmt, with fmt's text TOLD by the authors' own Lean function (tested against real Go, not proved from fmt's source: count such statements apart). THE CARD IS WHAT COUNTS. Prove the row's statement (the work); the ties are given (YtncdiodnbkhacaaDoorTie.lean); close each card by the builder's one call (the guide's Derived/Test/ToyasCard.lean, 'card_holds'). Laid BY PROGRAM, IN A SANDBOX (cutbox-door.mjs). By AI agents, Wed Nov 11 2026. No macro, syntax, notation, axiom, sorry.
-/
import Derived.Test.YtncdiodnbkhacaaDoorRows
import GoSem.ClaimSeven
namespace Go.Proofs.YtncdiodnbkhacaaDoor
namespace Rows

/-- THE TIED CARD OF 'penumbralaw04.DecimalParses'. -/
def decimalParsesCard : Claim7 := { stood := { row := decimalParsesRow, standIns := [], harness := (true, "0d623842c9dfe86c4ef42ce4fa2ff505091cc8fcbc3e0c09f197bc86563e38c6"), looks := false }, kinds := [], alts := [], laidByText := true, laidKinds := [.data, .pinned], laidTests := true, laidLooks := .later }
def DecimalParsesCardSaid : Prop := Claim7.holds Tryd.pinned (.plain (OpenSpec.ofChange decimalParsesSpec)) decimalParsesCard

/-- THE TIED CARD OF 'penumbralaw04.DecimalPrints'. -/
def decimalPrintsCard : Claim7 := { stood := { row := decimalPrintsRow, standIns := [], harness := (true, "0d623842c9dfe86c4ef42ce4fa2ff505091cc8fcbc3e0c09f197bc86563e38c6"), looks := false }, kinds := [], alts := [], laidByText := true, laidKinds := [.data, .pinned], laidTests := true, laidLooks := .later }
def DecimalPrintsCardSaid : Prop := Claim7.holds Tryd.pinned (.plain (OpenSpec.ofChange decimalPrintsSpec)) decimalPrintsCard

/-- THE TIED CARD OF 'penumbralaw04.DecimalTens'. -/
def decimalTensCard : Claim7 := { stood := { row := decimalTensRow, standIns := [], harness := (true, "0d623842c9dfe86c4ef42ce4fa2ff505091cc8fcbc3e0c09f197bc86563e38c6"), looks := false }, kinds := [], alts := [], laidByText := true, laidKinds := [.data, .pinned], laidTests := true, laidLooks := .later }
def DecimalTensCardSaid : Prop := Claim7.holds Tryd.pinned (.plain (OpenSpec.ofChange decimalTensSpec)) decimalTensCard

/-- THE TIED CARD OF 'penumbralaw04.DecimalBack'. -/
def decimalBackCard : Claim7 := { stood := { row := decimalBackRow, standIns := [], harness := (true, "0d623842c9dfe86c4ef42ce4fa2ff505091cc8fcbc3e0c09f197bc86563e38c6"), looks := false }, kinds := [], alts := [], laidByText := true, laidKinds := [.data, .pinned], laidTests := true, laidLooks := .later }
def DecimalBackCardSaid : Prop := Claim7.holds Tryd.pinned (.plain (OpenSpec.ofChange decimalBackSpec)) decimalBackCard

/-- THE TIED CARD OF 'penumbralaw04.DecimalPoints'. -/
def decimalPointsCard : Claim7 := { stood := { row := decimalPointsRow, standIns := [], harness := (true, "0d623842c9dfe86c4ef42ce4fa2ff505091cc8fcbc3e0c09f197bc86563e38c6"), looks := false }, kinds := [], alts := [], laidByText := true, laidKinds := [.data, .pinned], laidTests := true, laidLooks := .later }
def DecimalPointsCardSaid : Prop := Claim7.holds Tryd.pinned (.plain (OpenSpec.ofChange decimalPointsSpec)) decimalPointsCard

/-- THE SECOND FORM's CARD OF 'penumbralaw04.DecimalParses'. -/
def decimalParsesUptoCard : Claim7 := { stood := { row := decimalParsesUptoRow, standIns := [], harness := (true, "0d623842c9dfe86c4ef42ce4fa2ff505091cc8fcbc3e0c09f197bc86563e38c6"), looks := false }, kinds := [], alts := [], laidByText := true, laidKinds := [.data, .pinned], laidTests := true, laidLooks := .later }
def DecimalParsesUptoCardSaid : Prop := Claim7.holds Tryd.pinned (.plain (OpenSpec.upto decimalParsesSpec)) decimalParsesUptoCard

/-- THE SECOND FORM's CARD OF 'penumbralaw04.DecimalPrints'. -/
def decimalPrintsUptoCard : Claim7 := { stood := { row := decimalPrintsUptoRow, standIns := [], harness := (true, "0d623842c9dfe86c4ef42ce4fa2ff505091cc8fcbc3e0c09f197bc86563e38c6"), looks := false }, kinds := [], alts := [], laidByText := true, laidKinds := [.data, .pinned], laidTests := true, laidLooks := .later }
def DecimalPrintsUptoCardSaid : Prop := Claim7.holds Tryd.pinned (.plain (OpenSpec.upto decimalPrintsSpec)) decimalPrintsUptoCard

/-- THE SECOND FORM's CARD OF 'penumbralaw04.DecimalTens'. -/
def decimalTensUptoCard : Claim7 := { stood := { row := decimalTensUptoRow, standIns := [], harness := (true, "0d623842c9dfe86c4ef42ce4fa2ff505091cc8fcbc3e0c09f197bc86563e38c6"), looks := false }, kinds := [], alts := [], laidByText := true, laidKinds := [.data, .pinned], laidTests := true, laidLooks := .later }
def DecimalTensUptoCardSaid : Prop := Claim7.holds Tryd.pinned (.plain (OpenSpec.upto decimalTensSpec)) decimalTensUptoCard

/-- THE SECOND FORM's CARD OF 'penumbralaw04.DecimalBack'. -/
def decimalBackUptoCard : Claim7 := { stood := { row := decimalBackUptoRow, standIns := [], harness := (true, "0d623842c9dfe86c4ef42ce4fa2ff505091cc8fcbc3e0c09f197bc86563e38c6"), looks := false }, kinds := [], alts := [], laidByText := true, laidKinds := [.data, .pinned], laidTests := true, laidLooks := .later }
def DecimalBackUptoCardSaid : Prop := Claim7.holds Tryd.pinned (.plain (OpenSpec.upto decimalBackSpec)) decimalBackUptoCard

/-- THE SECOND FORM's CARD OF 'penumbralaw04.DecimalPoints'. -/
def decimalPointsUptoCard : Claim7 := { stood := { row := decimalPointsUptoRow, standIns := [], harness := (true, "0d623842c9dfe86c4ef42ce4fa2ff505091cc8fcbc3e0c09f197bc86563e38c6"), looks := false }, kinds := [], alts := [], laidByText := true, laidKinds := [.data, .pinned], laidTests := true, laidLooks := .later }
def DecimalPointsUptoCardSaid : Prop := Claim7.holds Tryd.pinned (.plain (OpenSpec.upto decimalPointsSpec)) decimalPointsUptoCard
end Rows
end Go.Proofs.YtncdiodnbkhacaaDoor
