/-
  DERIVED. GIVEN WITH THE SEED: THE CARDS: each row of YthffpkdadffinaaDoorRows.lean that lists a variable, with what it lists TIED to the program's text (the seventh form; the later family's looks); each row that meets fmt, with fmt's text TOLD by the authors' own Lean function (tested against real Go, not proved from fmt's source: count such statements apart). THE CARD IS WHAT COUNTS. Prove the row's statement (the work); the ties are given (YthffpkdadffinaaDoorTie.lean); close each card by the builder's one call (the guide's Derived/Test/ToyasCard.lean, 'card_holds'). Laid BY PROGRAM, IN A SANDBOX (cutbox-door.mjs). By AI agents, Wed Nov 11 2026. No macro, syntax, notation, axiom, sorry.
-/
import Derived.Test.YthffpkdadffinaaDoorRows
import GoSem.ClaimSeven
namespace Go.Proofs.YthffpkdadffinaaDoor
namespace Rows

/-- THE TIED CARD OF 'tremalaw04.SegChunks'. -/
def segChunksCard : Claim7 := { stood := { row := segChunksRow, standIns := [], harness := (true, "40dec18509303b2ee17917badb52d4e1cd75dc8afa2e2cbc1ad49e1a0b909216"), looks := false }, kinds := [], alts := [], laidByText := true, laidKinds := [.data, .data, .data], laidTests := true, laidLooks := .later }
def SegChunksCardSaid : Prop := Claim7.holds Tryd.pinned (.plain (OpenSpec.ofChange segChunksSpec)) segChunksCard

/-- THE TIED CARD OF 'tremalaw04.SegKeeps'. -/
def segKeepsCard : Claim7 := { stood := { row := segKeepsRow, standIns := [], harness := (true, "40dec18509303b2ee17917badb52d4e1cd75dc8afa2e2cbc1ad49e1a0b909216"), looks := false }, kinds := [], alts := [], laidByText := true, laidKinds := [.data, .data, .data], laidTests := true, laidLooks := .later }
def SegKeepsCardSaid : Prop := Claim7.holds Tryd.pinned (.plain (OpenSpec.ofChange segKeepsSpec)) segKeepsCard

/-- THE TIED CARD OF 'tremalaw02.UcdRanges'. -/
def ucdRangesCard : Claim7 := { stood := { row := ucdRangesRow, standIns := [], harness := (true, "40dec18509303b2ee17917badb52d4e1cd75dc8afa2e2cbc1ad49e1a0b909216"), looks := false }, kinds := [], alts := [], laidByText := true, laidKinds := [.data, .data, .data], laidTests := true, laidLooks := .later }
def UcdRangesCardSaid : Prop := Claim7.holds Tryd.pinned (.plain (OpenSpec.ofChange ucdRangesSpec)) ucdRangesCard

/-- THE TIED CARD OF 'tremalaw13.WordsTells'. -/
def wordsTellsCard : Claim7 := { stood := { row := wordsTellsRow, standIns := [], harness := (true, "40dec18509303b2ee17917badb52d4e1cd75dc8afa2e2cbc1ad49e1a0b909216"), looks := false }, kinds := [], alts := [], laidByText := true, laidKinds := [.data, .data, .data], laidTests := true, laidLooks := .later }
def WordsTellsCardSaid : Prop := Claim7.holds Tryd.pinned (.plain (OpenSpec.ofChange wordsTellsSpec)) wordsTellsCard

/-- THE TIED CARD OF 'tremalaw13.WordsJoins'. -/
def wordsJoinsCard : Claim7 := { stood := { row := wordsJoinsRow, standIns := [], harness := (true, "40dec18509303b2ee17917badb52d4e1cd75dc8afa2e2cbc1ad49e1a0b909216"), looks := false }, kinds := [], alts := [], laidByText := true, laidKinds := [.data, .data, .data], laidTests := true, laidLooks := .later }
def WordsJoinsCardSaid : Prop := Claim7.holds Tryd.pinned (.plain (OpenSpec.ofChange wordsJoinsSpec)) wordsJoinsCard

/-- THE TIED CARD OF 'tremalaw13.WordsKeys'. -/
def wordsKeysCard : Claim7 := { stood := { row := wordsKeysRow, standIns := [], harness := (true, "40dec18509303b2ee17917badb52d4e1cd75dc8afa2e2cbc1ad49e1a0b909216"), looks := false }, kinds := [], alts := [], laidByText := true, laidKinds := [.data, .data, .data], laidTests := true, laidLooks := .later }
def WordsKeysCardSaid : Prop := Claim7.holds Tryd.pinned (.plain (OpenSpec.ofChange wordsKeysSpec)) wordsKeysCard

/-- THE TIED CARD OF 'tremalaw13.WordsSame'. -/
def wordsSameCard : Claim7 := { stood := { row := wordsSameRow, standIns := [], harness := (true, "40dec18509303b2ee17917badb52d4e1cd75dc8afa2e2cbc1ad49e1a0b909216"), looks := false }, kinds := [], alts := [], laidByText := true, laidKinds := [.data, .data, .data], laidTests := true, laidLooks := .later }
def WordsSameCardSaid : Prop := Claim7.holds Tryd.pinned (.plain (OpenSpec.ofChange wordsSameSpec)) wordsSameCard

/-- THE TIED CARD OF 'tremalaw13.WordsApart'. -/
def wordsApartCard : Claim7 := { stood := { row := wordsApartRow, standIns := [], harness := (true, "40dec18509303b2ee17917badb52d4e1cd75dc8afa2e2cbc1ad49e1a0b909216"), looks := false }, kinds := [], alts := [], laidByText := true, laidKinds := [.data, .data, .data], laidTests := true, laidLooks := .later }
def WordsApartCardSaid : Prop := Claim7.holds Tryd.pinned (.plain (OpenSpec.ofChange wordsApartSpec)) wordsApartCard

/-- THE TIED CARD OF 'tremalaw13.WordsCases'. -/
def wordsCasesCard : Claim7 := { stood := { row := wordsCasesRow, standIns := [], harness := (true, "40dec18509303b2ee17917badb52d4e1cd75dc8afa2e2cbc1ad49e1a0b909216"), looks := false }, kinds := [], alts := [], laidByText := true, laidKinds := [.data, .data, .data], laidTests := true, laidLooks := .later }
def WordsCasesCardSaid : Prop := Claim7.holds Tryd.pinned (.plain (OpenSpec.ofChange wordsCasesSpec)) wordsCasesCard

/-- THE TIED CARD OF 'tremalaw13.WordsBeside'. -/
def wordsBesideCard : Claim7 := { stood := { row := wordsBesideRow, standIns := [], harness := (true, "40dec18509303b2ee17917badb52d4e1cd75dc8afa2e2cbc1ad49e1a0b909216"), looks := false }, kinds := [], alts := [], laidByText := true, laidKinds := [.data, .data, .data], laidTests := true, laidLooks := .later }
def WordsBesideCardSaid : Prop := Claim7.holds Tryd.pinned (.plain (OpenSpec.ofChange wordsBesideSpec)) wordsBesideCard

/-- THE SECOND FORM's CARD OF 'tremalaw04.SegChunks'. -/
def segChunksUptoCard : Claim7 := { stood := { row := segChunksUptoRow, standIns := [], harness := (true, "40dec18509303b2ee17917badb52d4e1cd75dc8afa2e2cbc1ad49e1a0b909216"), looks := false }, kinds := [], alts := [], laidByText := true, laidKinds := [.data, .data, .data], laidTests := true, laidLooks := .later }
def SegChunksUptoCardSaid : Prop := Claim7.holds Tryd.pinned (.plain (OpenSpec.upto segChunksSpec)) segChunksUptoCard

/-- THE SECOND FORM's CARD OF 'tremalaw04.SegKeeps'. -/
def segKeepsUptoCard : Claim7 := { stood := { row := segKeepsUptoRow, standIns := [], harness := (true, "40dec18509303b2ee17917badb52d4e1cd75dc8afa2e2cbc1ad49e1a0b909216"), looks := false }, kinds := [], alts := [], laidByText := true, laidKinds := [.data, .data, .data], laidTests := true, laidLooks := .later }
def SegKeepsUptoCardSaid : Prop := Claim7.holds Tryd.pinned (.plain (OpenSpec.upto segKeepsSpec)) segKeepsUptoCard

/-- THE SECOND FORM's CARD OF 'tremalaw02.UcdRanges'. -/
def ucdRangesUptoCard : Claim7 := { stood := { row := ucdRangesUptoRow, standIns := [], harness := (true, "40dec18509303b2ee17917badb52d4e1cd75dc8afa2e2cbc1ad49e1a0b909216"), looks := false }, kinds := [], alts := [], laidByText := true, laidKinds := [.data, .data, .data], laidTests := true, laidLooks := .later }
def UcdRangesUptoCardSaid : Prop := Claim7.holds Tryd.pinned (.plain (OpenSpec.upto ucdRangesSpec)) ucdRangesUptoCard

/-- THE SECOND FORM's CARD OF 'tremalaw13.WordsTells'. -/
def wordsTellsUptoCard : Claim7 := { stood := { row := wordsTellsUptoRow, standIns := [], harness := (true, "40dec18509303b2ee17917badb52d4e1cd75dc8afa2e2cbc1ad49e1a0b909216"), looks := false }, kinds := [], alts := [], laidByText := true, laidKinds := [.data, .data, .data], laidTests := true, laidLooks := .later }
def WordsTellsUptoCardSaid : Prop := Claim7.holds Tryd.pinned (.plain (OpenSpec.upto wordsTellsSpec)) wordsTellsUptoCard

/-- THE SECOND FORM's CARD OF 'tremalaw13.WordsJoins'. -/
def wordsJoinsUptoCard : Claim7 := { stood := { row := wordsJoinsUptoRow, standIns := [], harness := (true, "40dec18509303b2ee17917badb52d4e1cd75dc8afa2e2cbc1ad49e1a0b909216"), looks := false }, kinds := [], alts := [], laidByText := true, laidKinds := [.data, .data, .data], laidTests := true, laidLooks := .later }
def WordsJoinsUptoCardSaid : Prop := Claim7.holds Tryd.pinned (.plain (OpenSpec.upto wordsJoinsSpec)) wordsJoinsUptoCard

/-- THE SECOND FORM's CARD OF 'tremalaw13.WordsKeys'. -/
def wordsKeysUptoCard : Claim7 := { stood := { row := wordsKeysUptoRow, standIns := [], harness := (true, "40dec18509303b2ee17917badb52d4e1cd75dc8afa2e2cbc1ad49e1a0b909216"), looks := false }, kinds := [], alts := [], laidByText := true, laidKinds := [.data, .data, .data], laidTests := true, laidLooks := .later }
def WordsKeysUptoCardSaid : Prop := Claim7.holds Tryd.pinned (.plain (OpenSpec.upto wordsKeysSpec)) wordsKeysUptoCard

/-- THE SECOND FORM's CARD OF 'tremalaw13.WordsSame'. -/
def wordsSameUptoCard : Claim7 := { stood := { row := wordsSameUptoRow, standIns := [], harness := (true, "40dec18509303b2ee17917badb52d4e1cd75dc8afa2e2cbc1ad49e1a0b909216"), looks := false }, kinds := [], alts := [], laidByText := true, laidKinds := [.data, .data, .data], laidTests := true, laidLooks := .later }
def WordsSameUptoCardSaid : Prop := Claim7.holds Tryd.pinned (.plain (OpenSpec.upto wordsSameSpec)) wordsSameUptoCard

/-- THE SECOND FORM's CARD OF 'tremalaw13.WordsApart'. -/
def wordsApartUptoCard : Claim7 := { stood := { row := wordsApartUptoRow, standIns := [], harness := (true, "40dec18509303b2ee17917badb52d4e1cd75dc8afa2e2cbc1ad49e1a0b909216"), looks := false }, kinds := [], alts := [], laidByText := true, laidKinds := [.data, .data, .data], laidTests := true, laidLooks := .later }
def WordsApartUptoCardSaid : Prop := Claim7.holds Tryd.pinned (.plain (OpenSpec.upto wordsApartSpec)) wordsApartUptoCard

/-- THE SECOND FORM's CARD OF 'tremalaw13.WordsCases'. -/
def wordsCasesUptoCard : Claim7 := { stood := { row := wordsCasesUptoRow, standIns := [], harness := (true, "40dec18509303b2ee17917badb52d4e1cd75dc8afa2e2cbc1ad49e1a0b909216"), looks := false }, kinds := [], alts := [], laidByText := true, laidKinds := [.data, .data, .data], laidTests := true, laidLooks := .later }
def WordsCasesUptoCardSaid : Prop := Claim7.holds Tryd.pinned (.plain (OpenSpec.upto wordsCasesSpec)) wordsCasesUptoCard

/-- THE SECOND FORM's CARD OF 'tremalaw13.WordsBeside'. -/
def wordsBesideUptoCard : Claim7 := { stood := { row := wordsBesideUptoRow, standIns := [], harness := (true, "40dec18509303b2ee17917badb52d4e1cd75dc8afa2e2cbc1ad49e1a0b909216"), looks := false }, kinds := [], alts := [], laidByText := true, laidKinds := [.data, .data, .data], laidTests := true, laidLooks := .later }
def WordsBesideUptoCardSaid : Prop := Claim7.holds Tryd.pinned (.plain (OpenSpec.upto wordsBesideSpec)) wordsBesideUptoCard
end Rows
end Go.Proofs.YthffpkdadffinaaDoor
