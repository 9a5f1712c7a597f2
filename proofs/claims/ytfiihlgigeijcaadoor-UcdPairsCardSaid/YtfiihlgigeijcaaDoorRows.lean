/-
  NARROWER THAN 'FOR EVERY INPUT', by the rows' own cells (each row's printed sentence says how): UcdClasses: laid · UcdPairs: laid · UcdFolds: laid · UcdBottom: laid · UcdFolded: laid · UcdMarks: laid · UcdSyllables: laid · UcdRanges: laid.
  DERIVED. THE GIVEN ROWS OF THIS SEAT. 8 by the template 'for every input the law returns true; each argument reads behind the call as it read before'; 0 by the template 'total and deterministic' (their statements: YtfiihlgigeijcaaDoorTotals.lean).
  GIVEN WITH THE SEED: the statements are not yours to turn. If you find one false, say at which input.
  Laid BY PROGRAM, IN A SANDBOX (cutbox-rows.mjs): the forced cells as the released guide's own fill.sh prints them over the translation f5a436f433806986… (all of the seat's roots in one cut). By AI agents, Wed Nov 11 2026. No macro, syntax, notation, axiom, sorry.
-/
import Derived.Test.YtfiihlgigeijcaaDoorChecked
import GoSem.Claim
import GoSem.ClaimJoined
import GoSem.ClaimMapViews
import Derived.JoinedTies
import Derived.KernelRfl
namespace Go.Proofs.YtfiihlgigeijcaaDoor
/- THE CELL 'sum', in the pinned program and in every row, IS THE sha256 OF THE DUMP (.gsa) THAT YtfiihlgigeijcaaDoorProg.lean LOADS. Nothing in Lean hashes anything: it is a label: what it is worth is what the hold of that sum in a sandbox is worth. -/
noncomputable def Tryd.pinned : Pinned := { name := "ytfiihlgigeijcaadoor", sum := "f5a436f4338069863d3736951176bd8448a39cc52dc8772a7ab799d1b2862998", checked := Tryd.checked }
namespace Rows
def none {H : Type} : Left H := { results := [], args := [] }

/- WHAT THE LISTED PACKAGE-LEVEL VARIABLES READ AS WHEN THE CALL BEGINS. Each datum BY PROGRAM (the guide's laid-datum.mjs) off the statement by which the dump's own 'gosem.cut.vars' lays the variable. In a bare row this is a premise. The card (YtfiihlgigeijcaaDoorCards.lean) ties it to the program's text. -/
def laid_trema_ucd_classes {H : Type} : DataW H := .agg [.agg [.lit (.int .i32 768), .lit (.int .i32 788), .lit (.int .i32 230)], .agg [.lit (.int .i32 789), .lit (.int .i32 789), .lit (.int .i32 232)], .agg [.lit (.int .i32 790), .lit (.int .i32 793), .lit (.int .i32 220)], .agg [.lit (.int .i32 794), .lit (.int .i32 794), .lit (.int .i32 232)], .agg [.lit (.int .i32 795), .lit (.int .i32 795), .lit (.int .i32 216)], .agg [.lit (.int .i32 796), .lit (.int .i32 800), .lit (.int .i32 220)], .agg [.lit (.int .i32 801), .lit (.int .i32 802), .lit (.int .i32 202)], .agg [.lit (.int .i32 803), .lit (.int .i32 806), .lit (.int .i32 220)], .agg [.lit (.int .i32 807), .lit (.int .i32 808), .lit (.int .i32 202)], .agg [.lit (.int .i32 809), .lit (.int .i32 819), .lit (.int .i32 220)], .agg [.lit (.int .i32 820), .lit (.int .i32 824), .lit (.int .i32 1)], .agg [.lit (.int .i32 825), .lit (.int .i32 828), .lit (.int .i32 220)], .agg [.lit (.int .i32 829), .lit (.int .i32 836), .lit (.int .i32 230)], .agg [.lit (.int .i32 837), .lit (.int .i32 837), .lit (.int .i32 240)], .agg [.lit (.int .i32 838), .lit (.int .i32 838), .lit (.int .i32 230)], .agg [.lit (.int .i32 839), .lit (.int .i32 841), .lit (.int .i32 220)], .agg [.lit (.int .i32 842), .lit (.int .i32 844), .lit (.int .i32 230)], .agg [.lit (.int .i32 845), .lit (.int .i32 846), .lit (.int .i32 220)], .agg [.lit (.int .i32 848), .lit (.int .i32 850), .lit (.int .i32 230)], .agg [.lit (.int .i32 851), .lit (.int .i32 854), .lit (.int .i32 220)], .agg [.lit (.int .i32 855), .lit (.int .i32 855), .lit (.int .i32 230)], .agg [.lit (.int .i32 8400), .lit (.int .i32 8401), .lit (.int .i32 230)], .agg [.lit (.int .i32 12441), .lit (.int .i32 12442), .lit (.int .i32 8)]]
def laid_trema_ucd_pairs {H : Type} : DataW H := .agg [.agg [.lit (.int .i32 469), .lit (.int .i32 220), .lit (.int .i32 772)], .agg [.lit (.int .i32 470), .lit (.int .i32 252), .lit (.int .i32 772)], .agg [.lit (.int .i32 832), .lit (.int .i32 768), .lit (.int .i32 0)], .agg [.lit (.int .i32 833), .lit (.int .i32 769), .lit (.int .i32 0)], .agg [.lit (.int .i32 835), .lit (.int .i32 787), .lit (.int .i32 0)], .agg [.lit (.int .i32 836), .lit (.int .i32 776), .lit (.int .i32 769)], .agg [.lit (.int .i32 902), .lit (.int .i32 913), .lit (.int .i32 769)], .agg [.lit (.int .i32 912), .lit (.int .i32 970), .lit (.int .i32 769)], .agg [.lit (.int .i32 940), .lit (.int .i32 945), .lit (.int .i32 769)], .agg [.lit (.int .i32 943), .lit (.int .i32 953), .lit (.int .i32 769)], .agg [.lit (.int .i32 970), .lit (.int .i32 953), .lit (.int .i32 776)], .agg [.lit (.int .i32 972), .lit (.int .i32 959), .lit (.int .i32 769)], .agg [.lit (.int .i32 7691), .lit (.int .i32 100), .lit (.int .i32 775)], .agg [.lit (.int .i32 7693), .lit (.int .i32 100), .lit (.int .i32 803)], .agg [.lit (.int .i32 7777), .lit (.int .i32 115), .lit (.int .i32 775)], .agg [.lit (.int .i32 7779), .lit (.int .i32 115), .lit (.int .i32 803)], .agg [.lit (.int .i32 7785), .lit (.int .i32 7779), .lit (.int .i32 775)], .agg [.lit (.int .i32 7841), .lit (.int .i32 97), .lit (.int .i32 803)], .agg [.lit (.int .i32 7844), .lit (.int .i32 194), .lit (.int .i32 769)], .agg [.lit (.int .i32 7845), .lit (.int .i32 226), .lit (.int .i32 769)], .agg [.lit (.int .i32 7863), .lit (.int .i32 7841), .lit (.int .i32 774)], .agg [.lit (.int .i32 7865), .lit (.int .i32 101), .lit (.int .i32 803)], .agg [.lit (.int .i32 7879), .lit (.int .i32 7865), .lit (.int .i32 770)], .agg [.lit (.int .i32 8049), .lit (.int .i32 940), .lit (.int .i32 0)], .agg [.lit (.int .i32 8115), .lit (.int .i32 945), .lit (.int .i32 837)], .agg [.lit (.int .i32 8486), .lit (.int .i32 937), .lit (.int .i32 0)], .agg [.lit (.int .i32 8490), .lit (.int .i32 75), .lit (.int .i32 0)], .agg [.lit (.int .i32 8491), .lit (.int .i32 197), .lit (.int .i32 0)], .agg [.lit (.int .i32 8800), .lit (.int .i32 61), .lit (.int .i32 824)], .agg [.lit (.int .i32 12364), .lit (.int .i32 12363), .lit (.int .i32 12441)], .agg [.lit (.int .i32 12497), .lit (.int .i32 12495), .lit (.int .i32 12442)]]
def laid_trema_ucd_marks {H : Type} : DataW H := .agg [.lit (.int .i32 768), .lit (.int .i32 769), .lit (.int .i32 770), .lit (.int .i32 771), .lit (.int .i32 772), .lit (.int .i32 774), .lit (.int .i32 775), .lit (.int .i32 776), .lit (.int .i32 778), .lit (.int .i32 779), .lit (.int .i32 780), .lit (.int .i32 807), .lit (.int .i32 808)]

/-- 'tremalaw02.UcdClasses': WHATEVER THE INPUT: true; the input reads as it did. -/
def ucdClassesSpec : ChangeSpec := { name := "ucdClasses", fn := fun _ => fun
  | [d] => { results := [.lit (.bool true)], args := [d] }
  | _ => none }
def ucdClassesRow : OpenClaim := { program := "ytfiihlgigeijcaadoor", sum := "f5a436f4338069863d3736951176bd8448a39cc52dc8772a7ab799d1b2862998", func := "trema/tremalaw02.UcdClasses", spec := "ucdClasses", unfollowed := true, recurses := true, named := ["trema/ucd.pairs", "trema/ucd.marks", "trema/ucd.classes"], apart := false, laid := [("trema/ucd.classes", laid_trema_ucd_classes), ("trema/ucd.pairs", laid_trema_ucd_pairs), ("trema/ucd.marks", laid_trema_ucd_marks)] }
def UcdClassesSaid : Prop := ucdClassesRow.holds Tryd.pinned (OpenSpec.ofChange ucdClassesSpec)

/-- ITS FALSE NEIGHBOUR: 'it returns false'. Refute it at one input. -/
def ucdClassesWrong : ChangeSpec := { name := "ucdClasses", fn := fun _ => fun
  | [d] => { results := [.lit (.bool false)], args := [d] }
  | _ => none }
def UcdClassesWrongFalsely : Prop := ucdClassesRow.holds Tryd.pinned (OpenSpec.ofChange ucdClassesWrong)

/-- 'tremalaw02.UcdPairs': WHATEVER THE INPUT: true; the input reads as it did. -/
def ucdPairsSpec : ChangeSpec := { name := "ucdPairs", fn := fun _ => fun
  | [d] => { results := [.lit (.bool true)], args := [d] }
  | _ => none }
def ucdPairsRow : OpenClaim := { program := "ytfiihlgigeijcaadoor", sum := "f5a436f4338069863d3736951176bd8448a39cc52dc8772a7ab799d1b2862998", func := "trema/tremalaw02.UcdPairs", spec := "ucdPairs", unfollowed := true, recurses := true, named := ["trema/ucd.pairs", "trema/ucd.marks", "trema/ucd.classes"], apart := false, laid := [("trema/ucd.classes", laid_trema_ucd_classes), ("trema/ucd.pairs", laid_trema_ucd_pairs), ("trema/ucd.marks", laid_trema_ucd_marks)] }
def UcdPairsSaid : Prop := ucdPairsRow.holds Tryd.pinned (OpenSpec.ofChange ucdPairsSpec)

/-- ITS FALSE NEIGHBOUR: 'it returns false'. Refute it at one input. -/
def ucdPairsWrong : ChangeSpec := { name := "ucdPairs", fn := fun _ => fun
  | [d] => { results := [.lit (.bool false)], args := [d] }
  | _ => none }
def UcdPairsWrongFalsely : Prop := ucdPairsRow.holds Tryd.pinned (OpenSpec.ofChange ucdPairsWrong)

/-- 'tremalaw02.UcdFolds': WHATEVER THE INPUT: true; the input reads as it did. -/
def ucdFoldsSpec : ChangeSpec := { name := "ucdFolds", fn := fun _ => fun
  | [d1, d2] => { results := [.lit (.bool true)], args := [d1, d2] }
  | _ => none }
def ucdFoldsRow : OpenClaim := { program := "ytfiihlgigeijcaadoor", sum := "f5a436f4338069863d3736951176bd8448a39cc52dc8772a7ab799d1b2862998", func := "trema/tremalaw02.UcdFolds", spec := "ucdFolds", unfollowed := true, recurses := true, named := ["trema/ucd.pairs", "trema/ucd.marks", "trema/ucd.classes"], apart := false, laid := [("trema/ucd.classes", laid_trema_ucd_classes), ("trema/ucd.pairs", laid_trema_ucd_pairs), ("trema/ucd.marks", laid_trema_ucd_marks)] }
def UcdFoldsSaid : Prop := ucdFoldsRow.holds Tryd.pinned (OpenSpec.ofChange ucdFoldsSpec)

/-- ITS FALSE NEIGHBOUR: 'it returns false'. Refute it at one input. -/
def ucdFoldsWrong : ChangeSpec := { name := "ucdFolds", fn := fun _ => fun
  | [d1, d2] => { results := [.lit (.bool false)], args := [d1, d2] }
  | _ => none }
def UcdFoldsWrongFalsely : Prop := ucdFoldsRow.holds Tryd.pinned (OpenSpec.ofChange ucdFoldsWrong)

/-- 'tremalaw02.UcdBottom': WHATEVER THE INPUT: true; the input reads as it did. -/
def ucdBottomSpec : ChangeSpec := { name := "ucdBottom", fn := fun _ => fun
  | [d] => { results := [.lit (.bool true)], args := [d] }
  | _ => none }
def ucdBottomRow : OpenClaim := { program := "ytfiihlgigeijcaadoor", sum := "f5a436f4338069863d3736951176bd8448a39cc52dc8772a7ab799d1b2862998", func := "trema/tremalaw02.UcdBottom", spec := "ucdBottom", unfollowed := true, recurses := true, named := ["trema/ucd.pairs", "trema/ucd.marks", "trema/ucd.classes"], apart := false, laid := [("trema/ucd.classes", laid_trema_ucd_classes), ("trema/ucd.pairs", laid_trema_ucd_pairs), ("trema/ucd.marks", laid_trema_ucd_marks)] }
def UcdBottomSaid : Prop := ucdBottomRow.holds Tryd.pinned (OpenSpec.ofChange ucdBottomSpec)

/-- ITS FALSE NEIGHBOUR: 'it returns false'. Refute it at one input. -/
def ucdBottomWrong : ChangeSpec := { name := "ucdBottom", fn := fun _ => fun
  | [d] => { results := [.lit (.bool false)], args := [d] }
  | _ => none }
def UcdBottomWrongFalsely : Prop := ucdBottomRow.holds Tryd.pinned (OpenSpec.ofChange ucdBottomWrong)

/-- 'tremalaw02.UcdFolded': WHATEVER THE INPUT: true; the input reads as it did. -/
def ucdFoldedSpec : ChangeSpec := { name := "ucdFolded", fn := fun _ => fun
  | [d] => { results := [.lit (.bool true)], args := [d] }
  | _ => none }
def ucdFoldedRow : OpenClaim := { program := "ytfiihlgigeijcaadoor", sum := "f5a436f4338069863d3736951176bd8448a39cc52dc8772a7ab799d1b2862998", func := "trema/tremalaw02.UcdFolded", spec := "ucdFolded", unfollowed := true, recurses := true, named := ["trema/ucd.pairs", "trema/ucd.marks", "trema/ucd.classes"], apart := false, laid := [("trema/ucd.classes", laid_trema_ucd_classes), ("trema/ucd.pairs", laid_trema_ucd_pairs), ("trema/ucd.marks", laid_trema_ucd_marks)] }
def UcdFoldedSaid : Prop := ucdFoldedRow.holds Tryd.pinned (OpenSpec.ofChange ucdFoldedSpec)

/-- ITS FALSE NEIGHBOUR: 'it returns false'. Refute it at one input. -/
def ucdFoldedWrong : ChangeSpec := { name := "ucdFolded", fn := fun _ => fun
  | [d] => { results := [.lit (.bool false)], args := [d] }
  | _ => none }
def UcdFoldedWrongFalsely : Prop := ucdFoldedRow.holds Tryd.pinned (OpenSpec.ofChange ucdFoldedWrong)

/-- 'tremalaw02.UcdMarks': WHATEVER THE INPUT: true; the input reads as it did. -/
def ucdMarksSpec : ChangeSpec := { name := "ucdMarks", fn := fun _ => fun
  | [d] => { results := [.lit (.bool true)], args := [d] }
  | _ => none }
def ucdMarksRow : OpenClaim := { program := "ytfiihlgigeijcaadoor", sum := "f5a436f4338069863d3736951176bd8448a39cc52dc8772a7ab799d1b2862998", func := "trema/tremalaw02.UcdMarks", spec := "ucdMarks", unfollowed := true, recurses := true, named := ["trema/ucd.pairs", "trema/ucd.marks", "trema/ucd.classes"], apart := false, laid := [("trema/ucd.classes", laid_trema_ucd_classes), ("trema/ucd.pairs", laid_trema_ucd_pairs), ("trema/ucd.marks", laid_trema_ucd_marks)] }
def UcdMarksSaid : Prop := ucdMarksRow.holds Tryd.pinned (OpenSpec.ofChange ucdMarksSpec)

/-- ITS FALSE NEIGHBOUR: 'it returns false'. Refute it at one input. -/
def ucdMarksWrong : ChangeSpec := { name := "ucdMarks", fn := fun _ => fun
  | [d] => { results := [.lit (.bool false)], args := [d] }
  | _ => none }
def UcdMarksWrongFalsely : Prop := ucdMarksRow.holds Tryd.pinned (OpenSpec.ofChange ucdMarksWrong)

/-- 'tremalaw02.UcdSyllables': WHATEVER THE INPUT: true; the input reads as it did. -/
def ucdSyllablesSpec : ChangeSpec := { name := "ucdSyllables", fn := fun _ => fun
  | [d] => { results := [.lit (.bool true)], args := [d] }
  | _ => none }
def ucdSyllablesRow : OpenClaim := { program := "ytfiihlgigeijcaadoor", sum := "f5a436f4338069863d3736951176bd8448a39cc52dc8772a7ab799d1b2862998", func := "trema/tremalaw02.UcdSyllables", spec := "ucdSyllables", unfollowed := true, recurses := true, named := ["trema/ucd.pairs", "trema/ucd.marks", "trema/ucd.classes"], apart := false, laid := [("trema/ucd.classes", laid_trema_ucd_classes), ("trema/ucd.pairs", laid_trema_ucd_pairs), ("trema/ucd.marks", laid_trema_ucd_marks)] }
def UcdSyllablesSaid : Prop := ucdSyllablesRow.holds Tryd.pinned (OpenSpec.ofChange ucdSyllablesSpec)

/-- ITS FALSE NEIGHBOUR: 'it returns false'. Refute it at one input. -/
def ucdSyllablesWrong : ChangeSpec := { name := "ucdSyllables", fn := fun _ => fun
  | [d] => { results := [.lit (.bool false)], args := [d] }
  | _ => none }
def UcdSyllablesWrongFalsely : Prop := ucdSyllablesRow.holds Tryd.pinned (OpenSpec.ofChange ucdSyllablesWrong)

/-- 'tremalaw02.UcdRanges': WHATEVER THE INPUT: true; the input reads as it did. -/
def ucdRangesSpec : ChangeSpec := { name := "ucdRanges", fn := fun _ => fun
  | [d1, d2] => { results := [.lit (.bool true)], args := [d1, d2] }
  | _ => none }
def ucdRangesRow : OpenClaim := { program := "ytfiihlgigeijcaadoor", sum := "f5a436f4338069863d3736951176bd8448a39cc52dc8772a7ab799d1b2862998", func := "trema/tremalaw02.UcdRanges", spec := "ucdRanges", unfollowed := true, recurses := true, named := ["trema/ucd.pairs", "trema/ucd.marks", "trema/ucd.classes"], apart := false, laid := [("trema/ucd.classes", laid_trema_ucd_classes), ("trema/ucd.pairs", laid_trema_ucd_pairs), ("trema/ucd.marks", laid_trema_ucd_marks)] }
def UcdRangesSaid : Prop := ucdRangesRow.holds Tryd.pinned (OpenSpec.ofChange ucdRangesSpec)

/-- ITS FALSE NEIGHBOUR: 'it returns false'. Refute it at one input. -/
def ucdRangesWrong : ChangeSpec := { name := "ucdRanges", fn := fun _ => fun
  | [d1, d2] => { results := [.lit (.bool false)], args := [d1, d2] }
  | _ => none }
def UcdRangesWrongFalsely : Prop := ucdRangesRow.holds Tryd.pinned (OpenSpec.ofChange ucdRangesWrong)

/- THE SECOND FORM. 'bulk': how many values and letters a reading holds, each counted each time it is reached (what is shared counts as often as it is met; a slice's spare places count too). A statement '..UptoSaid' is the law's where the arguments, and the package variables that the reading takes, are together of bulk at most 1048576: NARROWER than '..Said'. Prove '..Said' where nothing that the law and all that it calls make is longer than what came in: it says more and counts as full. Else prove '..UptoSaid'. A law counts once. -/
mutual
def uptoBulk {H : Type} : DataW H → Nat
  | .lit (.string bytes) => bytes.length + 1
  | .lit _ => 1
  | .nil => 1
  | .ptr d => uptoBulk d + 1
  | .slice elems spare => uptoBulkAll elems + uptoBulkAll spare + 1
  | .agg parts => uptoBulkAll parts + 1
  | .iface _ d => uptoBulk d + 1
  | .map entries => uptoBulkEntries entries + 1
  | .held _ => 1
def uptoBulkAll {H : Type} : List (DataW H) → Nat
  | [] => 0
  | d :: r => uptoBulk d + uptoBulkAll r
def uptoBulkEntries {H : Type} : List (Lit × DataW H) → Nat
  | [] => 0
  | x :: r => uptoBulkEntry x + uptoBulkEntries r
def uptoBulkEntry {H : Type} : Lit × DataW H → Nat
  | (.string bytes, d) => bytes.length + uptoBulk d + 1
  | (_, d) => uptoBulk d + 1
 end
def uptoSmall : (H : Type) → List (DataW H) → Bool := fun _ ds => decide (uptoBulkAll ds ≤ 1048576)
def OpenSpec.upto (s : _root_.Go.ChangeSpec) : _root_.Go.OpenSpec := { _root_.Go.OpenSpec.ofChange s with cond := some uptoSmall }

/-- 'tremalaw02.UcdClasses', WHERE WHAT IT READS IS OF BULK AT MOST 1048576: true; the input reads as it did. -/
def ucdClassesUptoRow : OpenClaim := { program := "ytfiihlgigeijcaadoor", sum := "f5a436f4338069863d3736951176bd8448a39cc52dc8772a7ab799d1b2862998", func := "trema/tremalaw02.UcdClasses", spec := "ucdClasses", unfollowed := true, recurses := true, named := ["trema/ucd.pairs", "trema/ucd.marks", "trema/ucd.classes"], apart := false, laid := [("trema/ucd.classes", laid_trema_ucd_classes), ("trema/ucd.pairs", laid_trema_ucd_pairs), ("trema/ucd.marks", laid_trema_ucd_marks)], narrowed := true }
def UcdClassesUptoSaid : Prop := ucdClassesUptoRow.holds Tryd.pinned (OpenSpec.upto ucdClassesSpec)

/-- 'tremalaw02.UcdPairs', WHERE WHAT IT READS IS OF BULK AT MOST 1048576: true; the input reads as it did. -/
def ucdPairsUptoRow : OpenClaim := { program := "ytfiihlgigeijcaadoor", sum := "f5a436f4338069863d3736951176bd8448a39cc52dc8772a7ab799d1b2862998", func := "trema/tremalaw02.UcdPairs", spec := "ucdPairs", unfollowed := true, recurses := true, named := ["trema/ucd.pairs", "trema/ucd.marks", "trema/ucd.classes"], apart := false, laid := [("trema/ucd.classes", laid_trema_ucd_classes), ("trema/ucd.pairs", laid_trema_ucd_pairs), ("trema/ucd.marks", laid_trema_ucd_marks)], narrowed := true }
def UcdPairsUptoSaid : Prop := ucdPairsUptoRow.holds Tryd.pinned (OpenSpec.upto ucdPairsSpec)

/-- 'tremalaw02.UcdFolds', WHERE WHAT IT READS IS OF BULK AT MOST 1048576: true; the input reads as it did. -/
def ucdFoldsUptoRow : OpenClaim := { program := "ytfiihlgigeijcaadoor", sum := "f5a436f4338069863d3736951176bd8448a39cc52dc8772a7ab799d1b2862998", func := "trema/tremalaw02.UcdFolds", spec := "ucdFolds", unfollowed := true, recurses := true, named := ["trema/ucd.pairs", "trema/ucd.marks", "trema/ucd.classes"], apart := false, laid := [("trema/ucd.classes", laid_trema_ucd_classes), ("trema/ucd.pairs", laid_trema_ucd_pairs), ("trema/ucd.marks", laid_trema_ucd_marks)], narrowed := true }
def UcdFoldsUptoSaid : Prop := ucdFoldsUptoRow.holds Tryd.pinned (OpenSpec.upto ucdFoldsSpec)

/-- 'tremalaw02.UcdBottom', WHERE WHAT IT READS IS OF BULK AT MOST 1048576: true; the input reads as it did. -/
def ucdBottomUptoRow : OpenClaim := { program := "ytfiihlgigeijcaadoor", sum := "f5a436f4338069863d3736951176bd8448a39cc52dc8772a7ab799d1b2862998", func := "trema/tremalaw02.UcdBottom", spec := "ucdBottom", unfollowed := true, recurses := true, named := ["trema/ucd.pairs", "trema/ucd.marks", "trema/ucd.classes"], apart := false, laid := [("trema/ucd.classes", laid_trema_ucd_classes), ("trema/ucd.pairs", laid_trema_ucd_pairs), ("trema/ucd.marks", laid_trema_ucd_marks)], narrowed := true }
def UcdBottomUptoSaid : Prop := ucdBottomUptoRow.holds Tryd.pinned (OpenSpec.upto ucdBottomSpec)

/-- 'tremalaw02.UcdFolded', WHERE WHAT IT READS IS OF BULK AT MOST 1048576: true; the input reads as it did. -/
def ucdFoldedUptoRow : OpenClaim := { program := "ytfiihlgigeijcaadoor", sum := "f5a436f4338069863d3736951176bd8448a39cc52dc8772a7ab799d1b2862998", func := "trema/tremalaw02.UcdFolded", spec := "ucdFolded", unfollowed := true, recurses := true, named := ["trema/ucd.pairs", "trema/ucd.marks", "trema/ucd.classes"], apart := false, laid := [("trema/ucd.classes", laid_trema_ucd_classes), ("trema/ucd.pairs", laid_trema_ucd_pairs), ("trema/ucd.marks", laid_trema_ucd_marks)], narrowed := true }
def UcdFoldedUptoSaid : Prop := ucdFoldedUptoRow.holds Tryd.pinned (OpenSpec.upto ucdFoldedSpec)

/-- 'tremalaw02.UcdMarks', WHERE WHAT IT READS IS OF BULK AT MOST 1048576: true; the input reads as it did. -/
def ucdMarksUptoRow : OpenClaim := { program := "ytfiihlgigeijcaadoor", sum := "f5a436f4338069863d3736951176bd8448a39cc52dc8772a7ab799d1b2862998", func := "trema/tremalaw02.UcdMarks", spec := "ucdMarks", unfollowed := true, recurses := true, named := ["trema/ucd.pairs", "trema/ucd.marks", "trema/ucd.classes"], apart := false, laid := [("trema/ucd.classes", laid_trema_ucd_classes), ("trema/ucd.pairs", laid_trema_ucd_pairs), ("trema/ucd.marks", laid_trema_ucd_marks)], narrowed := true }
def UcdMarksUptoSaid : Prop := ucdMarksUptoRow.holds Tryd.pinned (OpenSpec.upto ucdMarksSpec)

/-- 'tremalaw02.UcdSyllables', WHERE WHAT IT READS IS OF BULK AT MOST 1048576: true; the input reads as it did. -/
def ucdSyllablesUptoRow : OpenClaim := { program := "ytfiihlgigeijcaadoor", sum := "f5a436f4338069863d3736951176bd8448a39cc52dc8772a7ab799d1b2862998", func := "trema/tremalaw02.UcdSyllables", spec := "ucdSyllables", unfollowed := true, recurses := true, named := ["trema/ucd.pairs", "trema/ucd.marks", "trema/ucd.classes"], apart := false, laid := [("trema/ucd.classes", laid_trema_ucd_classes), ("trema/ucd.pairs", laid_trema_ucd_pairs), ("trema/ucd.marks", laid_trema_ucd_marks)], narrowed := true }
def UcdSyllablesUptoSaid : Prop := ucdSyllablesUptoRow.holds Tryd.pinned (OpenSpec.upto ucdSyllablesSpec)

/-- 'tremalaw02.UcdRanges', WHERE WHAT IT READS IS OF BULK AT MOST 1048576: true; the input reads as it did. -/
def ucdRangesUptoRow : OpenClaim := { program := "ytfiihlgigeijcaadoor", sum := "f5a436f4338069863d3736951176bd8448a39cc52dc8772a7ab799d1b2862998", func := "trema/tremalaw02.UcdRanges", spec := "ucdRanges", unfollowed := true, recurses := true, named := ["trema/ucd.pairs", "trema/ucd.marks", "trema/ucd.classes"], apart := false, laid := [("trema/ucd.classes", laid_trema_ucd_classes), ("trema/ucd.pairs", laid_trema_ucd_pairs), ("trema/ucd.marks", laid_trema_ucd_marks)], narrowed := true }
def UcdRangesUptoSaid : Prop := ucdRangesUptoRow.holds Tryd.pinned (OpenSpec.upto ucdRangesSpec)

end Rows
end Go.Proofs.YtfiihlgigeijcaaDoor
