/-
  DERIVED. GIVEN WITH THE SEED: THE CARDS: each row of YtiggjbclbdikmaaDoorRows.lean that lists a variable, with what it lists TIED to the program's text (the seventh form; the later family's looks); each row that meets fmt, with fmt's text TOLD by the authors' own Lean function (tested against real Go, not proved from fmt's source: count such statements apart). THE CARD IS WHAT COUNTS. Prove the row's statement (the work); the ties are given (YtiggjbclbdikmaaDoorTie.lean); close each card by the builder's one call (the guide's Derived/Test/ToyasCard.lean, 'card_holds'). Laid BY PROGRAM, IN A SANDBOX (cutbox-door.mjs). By AI agents, Wed Nov 11 2026. No macro, syntax, notation, axiom, sorry.
-/
import Derived.Test.YtiggjbclbdikmaaDoorRows
import GoSem.ClaimSeven
namespace Go.Proofs.YtiggjbclbdikmaaDoor
namespace Rows

/-- THE TIED CARD OF 'tremalaw03.NormForms'. -/
def normFormsCard : Claim7 := { stood := { row := normFormsRow, standIns := [], harness := (true, "fdf6c36acc2ff838e2b06de7c88b3a207dcf6760465f25f192835ebb1407940d"), looks := false }, kinds := [], alts := [], laidByText := true, laidKinds := [.data, .data, .data], laidTests := true, laidLooks := .later }
def NormFormsCardSaid : Prop := Claim7.holds Tryd.pinned (.plain (OpenSpec.ofChange normFormsSpec)) normFormsCard

/-- THE TIED CARD OF 'tremalaw03.NormTexts'. -/
def normTextsCard : Claim7 := { stood := { row := normTextsRow, standIns := [], harness := (true, "fdf6c36acc2ff838e2b06de7c88b3a207dcf6760465f25f192835ebb1407940d"), looks := false }, kinds := [], alts := [], laidByText := true, laidKinds := [.data, .data, .data], laidTests := true, laidLooks := .later }
def NormTextsCardSaid : Prop := Claim7.holds Tryd.pinned (.plain (OpenSpec.ofChange normTextsSpec)) normTextsCard

/-- THE TIED CARD OF 'tremalaw03.NormOnce'. -/
def normOnceCard : Claim7 := { stood := { row := normOnceRow, standIns := [], harness := (true, "fdf6c36acc2ff838e2b06de7c88b3a207dcf6760465f25f192835ebb1407940d"), looks := false }, kinds := [], alts := [], laidByText := true, laidKinds := [.data, .data, .data], laidTests := true, laidLooks := .later }
def NormOnceCardSaid : Prop := Claim7.holds Tryd.pinned (.plain (OpenSpec.ofChange normOnceSpec)) normOnceCard

/-- THE TIED CARD OF 'tremalaw03.NormPieces'. -/
def normPiecesCard : Claim7 := { stood := { row := normPiecesRow, standIns := [], harness := (true, "fdf6c36acc2ff838e2b06de7c88b3a207dcf6760465f25f192835ebb1407940d"), looks := false }, kinds := [], alts := [], laidByText := true, laidKinds := [.data, .data, .data], laidTests := true, laidLooks := .later }
def NormPiecesCardSaid : Prop := Claim7.holds Tryd.pinned (.plain (OpenSpec.ofChange normPiecesSpec)) normPiecesCard

/-- THE TIED CARD OF 'tremalaw03.NormCuts'. -/
def normCutsCard : Claim7 := { stood := { row := normCutsRow, standIns := [], harness := (true, "fdf6c36acc2ff838e2b06de7c88b3a207dcf6760465f25f192835ebb1407940d"), looks := false }, kinds := [], alts := [], laidByText := true, laidKinds := [.data, .data, .data], laidTests := true, laidLooks := .later }
def NormCutsCardSaid : Prop := Claim7.holds Tryd.pinned (.plain (OpenSpec.ofChange normCutsSpec)) normCutsCard

/-- THE TIED CARD OF 'tremalaw03.NormSwaps'. -/
def normSwapsCard : Claim7 := { stood := { row := normSwapsRow, standIns := [], harness := (true, "fdf6c36acc2ff838e2b06de7c88b3a207dcf6760465f25f192835ebb1407940d"), looks := false }, kinds := [], alts := [], laidByText := true, laidKinds := [.data, .data, .data], laidTests := true, laidLooks := .later }
def NormSwapsCardSaid : Prop := Claim7.holds Tryd.pinned (.plain (OpenSpec.ofChange normSwapsSpec)) normSwapsCard

/-- THE TIED CARD OF 'tremalaw03.NormKeeps'. -/
def normKeepsCard : Claim7 := { stood := { row := normKeepsRow, standIns := [], harness := (true, "fdf6c36acc2ff838e2b06de7c88b3a207dcf6760465f25f192835ebb1407940d"), looks := false }, kinds := [], alts := [], laidByText := true, laidKinds := [.data, .data, .data], laidTests := true, laidLooks := .later }
def NormKeepsCardSaid : Prop := Claim7.holds Tryd.pinned (.plain (OpenSpec.ofChange normKeepsSpec)) normKeepsCard

/-- THE TIED CARD OF 'tremalaw03.NormStarters'. -/
def normStartersCard : Claim7 := { stood := { row := normStartersRow, standIns := [], harness := (true, "fdf6c36acc2ff838e2b06de7c88b3a207dcf6760465f25f192835ebb1407940d"), looks := false }, kinds := [], alts := [], laidByText := true, laidKinds := [.data, .data, .data], laidTests := true, laidLooks := .later }
def NormStartersCardSaid : Prop := Claim7.holds Tryd.pinned (.plain (OpenSpec.ofChange normStartersSpec)) normStartersCard

/-- THE TIED CARD OF 'tremalaw03.NormStable'. -/
def normStableCard : Claim7 := { stood := { row := normStableRow, standIns := [], harness := (true, "fdf6c36acc2ff838e2b06de7c88b3a207dcf6760465f25f192835ebb1407940d"), looks := false }, kinds := [], alts := [], laidByText := true, laidKinds := [.data, .data, .data], laidTests := true, laidLooks := .later }
def NormStableCardSaid : Prop := Claim7.holds Tryd.pinned (.plain (OpenSpec.ofChange normStableSpec)) normStableCard

/-- THE TIED CARD OF 'tremalaw04.SegSplits'. -/
def segSplitsCard : Claim7 := { stood := { row := segSplitsRow, standIns := [], harness := (true, "fdf6c36acc2ff838e2b06de7c88b3a207dcf6760465f25f192835ebb1407940d"), looks := false }, kinds := [], alts := [], laidByText := true, laidKinds := [.data, .data, .data], laidTests := true, laidLooks := .later }
def SegSplitsCardSaid : Prop := Claim7.holds Tryd.pinned (.plain (OpenSpec.ofChange segSplitsSpec)) segSplitsCard

/-- THE TIED CARD OF 'tremalaw04.SegChunks'. -/
def segChunksCard : Claim7 := { stood := { row := segChunksRow, standIns := [], harness := (true, "fdf6c36acc2ff838e2b06de7c88b3a207dcf6760465f25f192835ebb1407940d"), looks := false }, kinds := [], alts := [], laidByText := true, laidKinds := [.data, .data, .data], laidTests := true, laidLooks := .later }
def SegChunksCardSaid : Prop := Claim7.holds Tryd.pinned (.plain (OpenSpec.ofChange segChunksSpec)) segChunksCard

/-- THE TIED CARD OF 'tremalaw04.SegFills'. -/
def segFillsCard : Claim7 := { stood := { row := segFillsRow, standIns := [], harness := (true, "fdf6c36acc2ff838e2b06de7c88b3a207dcf6760465f25f192835ebb1407940d"), looks := false }, kinds := [], alts := [], laidByText := true, laidKinds := [.data, .data, .data], laidTests := true, laidLooks := .later }
def SegFillsCardSaid : Prop := Claim7.holds Tryd.pinned (.plain (OpenSpec.ofChange segFillsSpec)) segFillsCard

/-- THE TIED CARD OF 'tremalaw04.SegSame'. -/
def segSameCard : Claim7 := { stood := { row := segSameRow, standIns := [], harness := (true, "fdf6c36acc2ff838e2b06de7c88b3a207dcf6760465f25f192835ebb1407940d"), looks := false }, kinds := [], alts := [], laidByText := true, laidKinds := [.data, .data, .data], laidTests := true, laidLooks := .later }
def SegSameCardSaid : Prop := Claim7.holds Tryd.pinned (.plain (OpenSpec.ofChange segSameSpec)) segSameCard

/-- THE TIED CARD OF 'tremalaw04.SegKeeps'. -/
def segKeepsCard : Claim7 := { stood := { row := segKeepsRow, standIns := [], harness := (true, "fdf6c36acc2ff838e2b06de7c88b3a207dcf6760465f25f192835ebb1407940d"), looks := false }, kinds := [], alts := [], laidByText := true, laidKinds := [.data, .data, .data], laidTests := true, laidLooks := .later }
def SegKeepsCardSaid : Prop := Claim7.holds Tryd.pinned (.plain (OpenSpec.ofChange segKeepsSpec)) segKeepsCard

/-- THE TIED CARD OF 'tremalaw04.SegCounts'. -/
def segCountsCard : Claim7 := { stood := { row := segCountsRow, standIns := [], harness := (true, "fdf6c36acc2ff838e2b06de7c88b3a207dcf6760465f25f192835ebb1407940d"), looks := false }, kinds := [], alts := [], laidByText := true, laidKinds := [.data, .data, .data], laidTests := true, laidLooks := .later }
def SegCountsCardSaid : Prop := Claim7.holds Tryd.pinned (.plain (OpenSpec.ofChange segCountsSpec)) segCountsCard

/-- THE TIED CARD OF 'tremalaw04.SegJoins'. -/
def segJoinsCard : Claim7 := { stood := { row := segJoinsRow, standIns := [], harness := (true, "fdf6c36acc2ff838e2b06de7c88b3a207dcf6760465f25f192835ebb1407940d"), looks := false }, kinds := [], alts := [], laidByText := true, laidKinds := [.data, .data, .data], laidTests := true, laidLooks := .later }
def SegJoinsCardSaid : Prop := Claim7.holds Tryd.pinned (.plain (OpenSpec.ofChange segJoinsSpec)) segJoinsCard

/-- THE SECOND FORM's CARD OF 'tremalaw03.NormForms'. -/
def normFormsUptoCard : Claim7 := { stood := { row := normFormsUptoRow, standIns := [], harness := (true, "fdf6c36acc2ff838e2b06de7c88b3a207dcf6760465f25f192835ebb1407940d"), looks := false }, kinds := [], alts := [], laidByText := true, laidKinds := [.data, .data, .data], laidTests := true, laidLooks := .later }
def NormFormsUptoCardSaid : Prop := Claim7.holds Tryd.pinned (.plain (OpenSpec.upto normFormsSpec)) normFormsUptoCard

/-- THE SECOND FORM's CARD OF 'tremalaw03.NormTexts'. -/
def normTextsUptoCard : Claim7 := { stood := { row := normTextsUptoRow, standIns := [], harness := (true, "fdf6c36acc2ff838e2b06de7c88b3a207dcf6760465f25f192835ebb1407940d"), looks := false }, kinds := [], alts := [], laidByText := true, laidKinds := [.data, .data, .data], laidTests := true, laidLooks := .later }
def NormTextsUptoCardSaid : Prop := Claim7.holds Tryd.pinned (.plain (OpenSpec.upto normTextsSpec)) normTextsUptoCard

/-- THE SECOND FORM's CARD OF 'tremalaw03.NormOnce'. -/
def normOnceUptoCard : Claim7 := { stood := { row := normOnceUptoRow, standIns := [], harness := (true, "fdf6c36acc2ff838e2b06de7c88b3a207dcf6760465f25f192835ebb1407940d"), looks := false }, kinds := [], alts := [], laidByText := true, laidKinds := [.data, .data, .data], laidTests := true, laidLooks := .later }
def NormOnceUptoCardSaid : Prop := Claim7.holds Tryd.pinned (.plain (OpenSpec.upto normOnceSpec)) normOnceUptoCard

/-- THE SECOND FORM's CARD OF 'tremalaw03.NormPieces'. -/
def normPiecesUptoCard : Claim7 := { stood := { row := normPiecesUptoRow, standIns := [], harness := (true, "fdf6c36acc2ff838e2b06de7c88b3a207dcf6760465f25f192835ebb1407940d"), looks := false }, kinds := [], alts := [], laidByText := true, laidKinds := [.data, .data, .data], laidTests := true, laidLooks := .later }
def NormPiecesUptoCardSaid : Prop := Claim7.holds Tryd.pinned (.plain (OpenSpec.upto normPiecesSpec)) normPiecesUptoCard

/-- THE SECOND FORM's CARD OF 'tremalaw03.NormCuts'. -/
def normCutsUptoCard : Claim7 := { stood := { row := normCutsUptoRow, standIns := [], harness := (true, "fdf6c36acc2ff838e2b06de7c88b3a207dcf6760465f25f192835ebb1407940d"), looks := false }, kinds := [], alts := [], laidByText := true, laidKinds := [.data, .data, .data], laidTests := true, laidLooks := .later }
def NormCutsUptoCardSaid : Prop := Claim7.holds Tryd.pinned (.plain (OpenSpec.upto normCutsSpec)) normCutsUptoCard

/-- THE SECOND FORM's CARD OF 'tremalaw03.NormSwaps'. -/
def normSwapsUptoCard : Claim7 := { stood := { row := normSwapsUptoRow, standIns := [], harness := (true, "fdf6c36acc2ff838e2b06de7c88b3a207dcf6760465f25f192835ebb1407940d"), looks := false }, kinds := [], alts := [], laidByText := true, laidKinds := [.data, .data, .data], laidTests := true, laidLooks := .later }
def NormSwapsUptoCardSaid : Prop := Claim7.holds Tryd.pinned (.plain (OpenSpec.upto normSwapsSpec)) normSwapsUptoCard

/-- THE SECOND FORM's CARD OF 'tremalaw03.NormKeeps'. -/
def normKeepsUptoCard : Claim7 := { stood := { row := normKeepsUptoRow, standIns := [], harness := (true, "fdf6c36acc2ff838e2b06de7c88b3a207dcf6760465f25f192835ebb1407940d"), looks := false }, kinds := [], alts := [], laidByText := true, laidKinds := [.data, .data, .data], laidTests := true, laidLooks := .later }
def NormKeepsUptoCardSaid : Prop := Claim7.holds Tryd.pinned (.plain (OpenSpec.upto normKeepsSpec)) normKeepsUptoCard

/-- THE SECOND FORM's CARD OF 'tremalaw03.NormStarters'. -/
def normStartersUptoCard : Claim7 := { stood := { row := normStartersUptoRow, standIns := [], harness := (true, "fdf6c36acc2ff838e2b06de7c88b3a207dcf6760465f25f192835ebb1407940d"), looks := false }, kinds := [], alts := [], laidByText := true, laidKinds := [.data, .data, .data], laidTests := true, laidLooks := .later }
def NormStartersUptoCardSaid : Prop := Claim7.holds Tryd.pinned (.plain (OpenSpec.upto normStartersSpec)) normStartersUptoCard

/-- THE SECOND FORM's CARD OF 'tremalaw03.NormStable'. -/
def normStableUptoCard : Claim7 := { stood := { row := normStableUptoRow, standIns := [], harness := (true, "fdf6c36acc2ff838e2b06de7c88b3a207dcf6760465f25f192835ebb1407940d"), looks := false }, kinds := [], alts := [], laidByText := true, laidKinds := [.data, .data, .data], laidTests := true, laidLooks := .later }
def NormStableUptoCardSaid : Prop := Claim7.holds Tryd.pinned (.plain (OpenSpec.upto normStableSpec)) normStableUptoCard

/-- THE SECOND FORM's CARD OF 'tremalaw04.SegSplits'. -/
def segSplitsUptoCard : Claim7 := { stood := { row := segSplitsUptoRow, standIns := [], harness := (true, "fdf6c36acc2ff838e2b06de7c88b3a207dcf6760465f25f192835ebb1407940d"), looks := false }, kinds := [], alts := [], laidByText := true, laidKinds := [.data, .data, .data], laidTests := true, laidLooks := .later }
def SegSplitsUptoCardSaid : Prop := Claim7.holds Tryd.pinned (.plain (OpenSpec.upto segSplitsSpec)) segSplitsUptoCard

/-- THE SECOND FORM's CARD OF 'tremalaw04.SegChunks'. -/
def segChunksUptoCard : Claim7 := { stood := { row := segChunksUptoRow, standIns := [], harness := (true, "fdf6c36acc2ff838e2b06de7c88b3a207dcf6760465f25f192835ebb1407940d"), looks := false }, kinds := [], alts := [], laidByText := true, laidKinds := [.data, .data, .data], laidTests := true, laidLooks := .later }
def SegChunksUptoCardSaid : Prop := Claim7.holds Tryd.pinned (.plain (OpenSpec.upto segChunksSpec)) segChunksUptoCard

/-- THE SECOND FORM's CARD OF 'tremalaw04.SegFills'. -/
def segFillsUptoCard : Claim7 := { stood := { row := segFillsUptoRow, standIns := [], harness := (true, "fdf6c36acc2ff838e2b06de7c88b3a207dcf6760465f25f192835ebb1407940d"), looks := false }, kinds := [], alts := [], laidByText := true, laidKinds := [.data, .data, .data], laidTests := true, laidLooks := .later }
def SegFillsUptoCardSaid : Prop := Claim7.holds Tryd.pinned (.plain (OpenSpec.upto segFillsSpec)) segFillsUptoCard

/-- THE SECOND FORM's CARD OF 'tremalaw04.SegSame'. -/
def segSameUptoCard : Claim7 := { stood := { row := segSameUptoRow, standIns := [], harness := (true, "fdf6c36acc2ff838e2b06de7c88b3a207dcf6760465f25f192835ebb1407940d"), looks := false }, kinds := [], alts := [], laidByText := true, laidKinds := [.data, .data, .data], laidTests := true, laidLooks := .later }
def SegSameUptoCardSaid : Prop := Claim7.holds Tryd.pinned (.plain (OpenSpec.upto segSameSpec)) segSameUptoCard

/-- THE SECOND FORM's CARD OF 'tremalaw04.SegKeeps'. -/
def segKeepsUptoCard : Claim7 := { stood := { row := segKeepsUptoRow, standIns := [], harness := (true, "fdf6c36acc2ff838e2b06de7c88b3a207dcf6760465f25f192835ebb1407940d"), looks := false }, kinds := [], alts := [], laidByText := true, laidKinds := [.data, .data, .data], laidTests := true, laidLooks := .later }
def SegKeepsUptoCardSaid : Prop := Claim7.holds Tryd.pinned (.plain (OpenSpec.upto segKeepsSpec)) segKeepsUptoCard

/-- THE SECOND FORM's CARD OF 'tremalaw04.SegCounts'. -/
def segCountsUptoCard : Claim7 := { stood := { row := segCountsUptoRow, standIns := [], harness := (true, "fdf6c36acc2ff838e2b06de7c88b3a207dcf6760465f25f192835ebb1407940d"), looks := false }, kinds := [], alts := [], laidByText := true, laidKinds := [.data, .data, .data], laidTests := true, laidLooks := .later }
def SegCountsUptoCardSaid : Prop := Claim7.holds Tryd.pinned (.plain (OpenSpec.upto segCountsSpec)) segCountsUptoCard

/-- THE SECOND FORM's CARD OF 'tremalaw04.SegJoins'. -/
def segJoinsUptoCard : Claim7 := { stood := { row := segJoinsUptoRow, standIns := [], harness := (true, "fdf6c36acc2ff838e2b06de7c88b3a207dcf6760465f25f192835ebb1407940d"), looks := false }, kinds := [], alts := [], laidByText := true, laidKinds := [.data, .data, .data], laidTests := true, laidLooks := .later }
def SegJoinsUptoCardSaid : Prop := Claim7.holds Tryd.pinned (.plain (OpenSpec.upto segJoinsSpec)) segJoinsUptoCard
end Rows
end Go.Proofs.YtiggjbclbdikmaaDoor
