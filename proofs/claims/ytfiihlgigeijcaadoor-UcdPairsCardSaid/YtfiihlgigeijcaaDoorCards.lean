/-
  DERIVED. GIVEN WITH THE SEED: THE CARDS: each row of YtfiihlgigeijcaaDoorRows.lean that lists a variable, with what it lists TIED to the program's text (the seventh form; the later family's looks); each row that meets fmt, with fmt's text TOLD by the authors' own Lean function (tested against real Go, not proved from fmt's source: count such statements apart). THE CARD IS WHAT COUNTS. Prove the row's statement (the work); the ties are given (YtfiihlgigeijcaaDoorTie.lean); close each card by the builder's one call (the guide's Derived/Test/ToyasCard.lean, 'card_holds'). Laid BY PROGRAM, IN A SANDBOX (cutbox-door.mjs). By AI agents, Wed Nov 11 2026. No macro, syntax, notation, axiom, sorry.
-/
import Derived.Test.YtfiihlgigeijcaaDoorRows
import GoSem.ClaimSeven
namespace Go.Proofs.YtfiihlgigeijcaaDoor
namespace Rows

/-- THE TIED CARD OF 'tremalaw02.UcdClasses'. -/
def ucdClassesCard : Claim7 := { stood := { row := ucdClassesRow, standIns := [], harness := (true, "e4e7ea0ce0bb4dc9d67d267b38a1db2f876ba8af9d634716ff45d96d34a0a71f"), looks := false }, kinds := [], alts := [], laidByText := true, laidKinds := [.data, .data, .data], laidTests := true, laidLooks := .later }
def UcdClassesCardSaid : Prop := Claim7.holds Tryd.pinned (.plain (OpenSpec.ofChange ucdClassesSpec)) ucdClassesCard

/-- THE TIED CARD OF 'tremalaw02.UcdPairs'. -/
def ucdPairsCard : Claim7 := { stood := { row := ucdPairsRow, standIns := [], harness := (true, "e4e7ea0ce0bb4dc9d67d267b38a1db2f876ba8af9d634716ff45d96d34a0a71f"), looks := false }, kinds := [], alts := [], laidByText := true, laidKinds := [.data, .data, .data], laidTests := true, laidLooks := .later }
def UcdPairsCardSaid : Prop := Claim7.holds Tryd.pinned (.plain (OpenSpec.ofChange ucdPairsSpec)) ucdPairsCard

/-- THE TIED CARD OF 'tremalaw02.UcdFolds'. -/
def ucdFoldsCard : Claim7 := { stood := { row := ucdFoldsRow, standIns := [], harness := (true, "e4e7ea0ce0bb4dc9d67d267b38a1db2f876ba8af9d634716ff45d96d34a0a71f"), looks := false }, kinds := [], alts := [], laidByText := true, laidKinds := [.data, .data, .data], laidTests := true, laidLooks := .later }
def UcdFoldsCardSaid : Prop := Claim7.holds Tryd.pinned (.plain (OpenSpec.ofChange ucdFoldsSpec)) ucdFoldsCard

/-- THE TIED CARD OF 'tremalaw02.UcdBottom'. -/
def ucdBottomCard : Claim7 := { stood := { row := ucdBottomRow, standIns := [], harness := (true, "e4e7ea0ce0bb4dc9d67d267b38a1db2f876ba8af9d634716ff45d96d34a0a71f"), looks := false }, kinds := [], alts := [], laidByText := true, laidKinds := [.data, .data, .data], laidTests := true, laidLooks := .later }
def UcdBottomCardSaid : Prop := Claim7.holds Tryd.pinned (.plain (OpenSpec.ofChange ucdBottomSpec)) ucdBottomCard

/-- THE TIED CARD OF 'tremalaw02.UcdFolded'. -/
def ucdFoldedCard : Claim7 := { stood := { row := ucdFoldedRow, standIns := [], harness := (true, "e4e7ea0ce0bb4dc9d67d267b38a1db2f876ba8af9d634716ff45d96d34a0a71f"), looks := false }, kinds := [], alts := [], laidByText := true, laidKinds := [.data, .data, .data], laidTests := true, laidLooks := .later }
def UcdFoldedCardSaid : Prop := Claim7.holds Tryd.pinned (.plain (OpenSpec.ofChange ucdFoldedSpec)) ucdFoldedCard

/-- THE TIED CARD OF 'tremalaw02.UcdMarks'. -/
def ucdMarksCard : Claim7 := { stood := { row := ucdMarksRow, standIns := [], harness := (true, "e4e7ea0ce0bb4dc9d67d267b38a1db2f876ba8af9d634716ff45d96d34a0a71f"), looks := false }, kinds := [], alts := [], laidByText := true, laidKinds := [.data, .data, .data], laidTests := true, laidLooks := .later }
def UcdMarksCardSaid : Prop := Claim7.holds Tryd.pinned (.plain (OpenSpec.ofChange ucdMarksSpec)) ucdMarksCard

/-- THE TIED CARD OF 'tremalaw02.UcdSyllables'. -/
def ucdSyllablesCard : Claim7 := { stood := { row := ucdSyllablesRow, standIns := [], harness := (true, "e4e7ea0ce0bb4dc9d67d267b38a1db2f876ba8af9d634716ff45d96d34a0a71f"), looks := false }, kinds := [], alts := [], laidByText := true, laidKinds := [.data, .data, .data], laidTests := true, laidLooks := .later }
def UcdSyllablesCardSaid : Prop := Claim7.holds Tryd.pinned (.plain (OpenSpec.ofChange ucdSyllablesSpec)) ucdSyllablesCard

/-- THE TIED CARD OF 'tremalaw02.UcdRanges'. -/
def ucdRangesCard : Claim7 := { stood := { row := ucdRangesRow, standIns := [], harness := (true, "e4e7ea0ce0bb4dc9d67d267b38a1db2f876ba8af9d634716ff45d96d34a0a71f"), looks := false }, kinds := [], alts := [], laidByText := true, laidKinds := [.data, .data, .data], laidTests := true, laidLooks := .later }
def UcdRangesCardSaid : Prop := Claim7.holds Tryd.pinned (.plain (OpenSpec.ofChange ucdRangesSpec)) ucdRangesCard

/-- THE SECOND FORM's CARD OF 'tremalaw02.UcdClasses'. -/
def ucdClassesUptoCard : Claim7 := { stood := { row := ucdClassesUptoRow, standIns := [], harness := (true, "e4e7ea0ce0bb4dc9d67d267b38a1db2f876ba8af9d634716ff45d96d34a0a71f"), looks := false }, kinds := [], alts := [], laidByText := true, laidKinds := [.data, .data, .data], laidTests := true, laidLooks := .later }
def UcdClassesUptoCardSaid : Prop := Claim7.holds Tryd.pinned (.plain (OpenSpec.upto ucdClassesSpec)) ucdClassesUptoCard

/-- THE SECOND FORM's CARD OF 'tremalaw02.UcdPairs'. -/
def ucdPairsUptoCard : Claim7 := { stood := { row := ucdPairsUptoRow, standIns := [], harness := (true, "e4e7ea0ce0bb4dc9d67d267b38a1db2f876ba8af9d634716ff45d96d34a0a71f"), looks := false }, kinds := [], alts := [], laidByText := true, laidKinds := [.data, .data, .data], laidTests := true, laidLooks := .later }
def UcdPairsUptoCardSaid : Prop := Claim7.holds Tryd.pinned (.plain (OpenSpec.upto ucdPairsSpec)) ucdPairsUptoCard

/-- THE SECOND FORM's CARD OF 'tremalaw02.UcdFolds'. -/
def ucdFoldsUptoCard : Claim7 := { stood := { row := ucdFoldsUptoRow, standIns := [], harness := (true, "e4e7ea0ce0bb4dc9d67d267b38a1db2f876ba8af9d634716ff45d96d34a0a71f"), looks := false }, kinds := [], alts := [], laidByText := true, laidKinds := [.data, .data, .data], laidTests := true, laidLooks := .later }
def UcdFoldsUptoCardSaid : Prop := Claim7.holds Tryd.pinned (.plain (OpenSpec.upto ucdFoldsSpec)) ucdFoldsUptoCard

/-- THE SECOND FORM's CARD OF 'tremalaw02.UcdBottom'. -/
def ucdBottomUptoCard : Claim7 := { stood := { row := ucdBottomUptoRow, standIns := [], harness := (true, "e4e7ea0ce0bb4dc9d67d267b38a1db2f876ba8af9d634716ff45d96d34a0a71f"), looks := false }, kinds := [], alts := [], laidByText := true, laidKinds := [.data, .data, .data], laidTests := true, laidLooks := .later }
def UcdBottomUptoCardSaid : Prop := Claim7.holds Tryd.pinned (.plain (OpenSpec.upto ucdBottomSpec)) ucdBottomUptoCard

/-- THE SECOND FORM's CARD OF 'tremalaw02.UcdFolded'. -/
def ucdFoldedUptoCard : Claim7 := { stood := { row := ucdFoldedUptoRow, standIns := [], harness := (true, "e4e7ea0ce0bb4dc9d67d267b38a1db2f876ba8af9d634716ff45d96d34a0a71f"), looks := false }, kinds := [], alts := [], laidByText := true, laidKinds := [.data, .data, .data], laidTests := true, laidLooks := .later }
def UcdFoldedUptoCardSaid : Prop := Claim7.holds Tryd.pinned (.plain (OpenSpec.upto ucdFoldedSpec)) ucdFoldedUptoCard

/-- THE SECOND FORM's CARD OF 'tremalaw02.UcdMarks'. -/
def ucdMarksUptoCard : Claim7 := { stood := { row := ucdMarksUptoRow, standIns := [], harness := (true, "e4e7ea0ce0bb4dc9d67d267b38a1db2f876ba8af9d634716ff45d96d34a0a71f"), looks := false }, kinds := [], alts := [], laidByText := true, laidKinds := [.data, .data, .data], laidTests := true, laidLooks := .later }
def UcdMarksUptoCardSaid : Prop := Claim7.holds Tryd.pinned (.plain (OpenSpec.upto ucdMarksSpec)) ucdMarksUptoCard

/-- THE SECOND FORM's CARD OF 'tremalaw02.UcdSyllables'. -/
def ucdSyllablesUptoCard : Claim7 := { stood := { row := ucdSyllablesUptoRow, standIns := [], harness := (true, "e4e7ea0ce0bb4dc9d67d267b38a1db2f876ba8af9d634716ff45d96d34a0a71f"), looks := false }, kinds := [], alts := [], laidByText := true, laidKinds := [.data, .data, .data], laidTests := true, laidLooks := .later }
def UcdSyllablesUptoCardSaid : Prop := Claim7.holds Tryd.pinned (.plain (OpenSpec.upto ucdSyllablesSpec)) ucdSyllablesUptoCard

/-- THE SECOND FORM's CARD OF 'tremalaw02.UcdRanges'. -/
def ucdRangesUptoCard : Claim7 := { stood := { row := ucdRangesUptoRow, standIns := [], harness := (true, "e4e7ea0ce0bb4dc9d67d267b38a1db2f876ba8af9d634716ff45d96d34a0a71f"), looks := false }, kinds := [], alts := [], laidByText := true, laidKinds := [.data, .data, .data], laidTests := true, laidLooks := .later }
def UcdRangesUptoCardSaid : Prop := Claim7.holds Tryd.pinned (.plain (OpenSpec.upto ucdRangesSpec)) ucdRangesUptoCard
end Rows
end Go.Proofs.YtfiihlgigeijcaaDoor
