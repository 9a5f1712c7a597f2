/-
  NARROWER THAN 'FOR EVERY INPUT', by the rows' own cells (each row's printed sentence says how): NormForms: laid · NormTexts: laid · NormOnce: laid · NormPieces: laid · NormCuts: laid · NormSwaps: laid · NormKeeps: laid · NormStarters: laid · NormStable: laid · SegSplits: laid · SegChunks: laid · SegFills: laid · SegSame: laid · SegKeeps: laid · SegCounts: laid · SegJoins: laid.
  DERIVED. THE GIVEN ROWS OF THIS SEAT. 16 by the template 'for every input the law returns true; each argument reads behind the call as it read before'; 0 by the template 'total and deterministic' (their statements: YtiggjbclbdikmaaDoorTotals.lean).
  GIVEN WITH THE SEED: the statements are not yours to turn. If you find one false, say at which input.
  Laid BY PROGRAM, IN A SANDBOX (cutbox-rows.mjs): the forced cells as the released guide's own fill.sh prints them over the translation 947714850b6c7e90… (all of the seat's roots in one cut). By AI agents, Wed Nov 11 2026. No macro, syntax, notation, axiom, sorry.
-/
import Derived.Test.YtiggjbclbdikmaaDoorChecked
import GoSem.Claim
import GoSem.ClaimJoined
import GoSem.ClaimMapViews
import Derived.JoinedTies
import Derived.KernelRfl
namespace Go.Proofs.YtiggjbclbdikmaaDoor
/- THE CELL 'sum', in the pinned program and in every row, IS THE sha256 OF THE DUMP (.gsa) THAT YtiggjbclbdikmaaDoorProg.lean LOADS. Nothing in Lean hashes anything: it is a label: what it is worth is what the hold of that sum in a sandbox is worth. -/
noncomputable def Tryd.pinned : Pinned := { name := "ytiggjbclbdikmaadoor", sum := "947714850b6c7e904508cd12e9ffebb7374d344fe1bb2d9aa2d0a58fde45faa3", checked := Tryd.checked }
namespace Rows
def none {H : Type} : Left H := { results := [], args := [] }

/- WHAT THE LISTED PACKAGE-LEVEL VARIABLES READ AS WHEN THE CALL BEGINS. Each datum BY PROGRAM (the guide's laid-datum.mjs) off the statement by which the dump's own 'gosem.cut.vars' lays the variable. In a bare row this is a premise. The card (YtiggjbclbdikmaaDoorCards.lean) ties it to the program's text. -/
def laid_trema_ucd_classes {H : Type} : DataW H := .agg [.agg [.lit (.int .i32 768), .lit (.int .i32 788), .lit (.int .i32 230)], .agg [.lit (.int .i32 789), .lit (.int .i32 789), .lit (.int .i32 232)], .agg [.lit (.int .i32 790), .lit (.int .i32 793), .lit (.int .i32 220)], .agg [.lit (.int .i32 794), .lit (.int .i32 794), .lit (.int .i32 232)], .agg [.lit (.int .i32 795), .lit (.int .i32 795), .lit (.int .i32 216)], .agg [.lit (.int .i32 796), .lit (.int .i32 800), .lit (.int .i32 220)], .agg [.lit (.int .i32 801), .lit (.int .i32 802), .lit (.int .i32 202)], .agg [.lit (.int .i32 803), .lit (.int .i32 806), .lit (.int .i32 220)], .agg [.lit (.int .i32 807), .lit (.int .i32 808), .lit (.int .i32 202)], .agg [.lit (.int .i32 809), .lit (.int .i32 819), .lit (.int .i32 220)], .agg [.lit (.int .i32 820), .lit (.int .i32 824), .lit (.int .i32 1)], .agg [.lit (.int .i32 825), .lit (.int .i32 828), .lit (.int .i32 220)], .agg [.lit (.int .i32 829), .lit (.int .i32 836), .lit (.int .i32 230)], .agg [.lit (.int .i32 837), .lit (.int .i32 837), .lit (.int .i32 240)], .agg [.lit (.int .i32 838), .lit (.int .i32 838), .lit (.int .i32 230)], .agg [.lit (.int .i32 839), .lit (.int .i32 841), .lit (.int .i32 220)], .agg [.lit (.int .i32 842), .lit (.int .i32 844), .lit (.int .i32 230)], .agg [.lit (.int .i32 845), .lit (.int .i32 846), .lit (.int .i32 220)], .agg [.lit (.int .i32 848), .lit (.int .i32 850), .lit (.int .i32 230)], .agg [.lit (.int .i32 851), .lit (.int .i32 854), .lit (.int .i32 220)], .agg [.lit (.int .i32 855), .lit (.int .i32 855), .lit (.int .i32 230)], .agg [.lit (.int .i32 8400), .lit (.int .i32 8401), .lit (.int .i32 230)], .agg [.lit (.int .i32 12441), .lit (.int .i32 12442), .lit (.int .i32 8)]]
def laid_trema_ucd_pairs {H : Type} : DataW H := .agg [.agg [.lit (.int .i32 469), .lit (.int .i32 220), .lit (.int .i32 772)], .agg [.lit (.int .i32 470), .lit (.int .i32 252), .lit (.int .i32 772)], .agg [.lit (.int .i32 832), .lit (.int .i32 768), .lit (.int .i32 0)], .agg [.lit (.int .i32 833), .lit (.int .i32 769), .lit (.int .i32 0)], .agg [.lit (.int .i32 835), .lit (.int .i32 787), .lit (.int .i32 0)], .agg [.lit (.int .i32 836), .lit (.int .i32 776), .lit (.int .i32 769)], .agg [.lit (.int .i32 902), .lit (.int .i32 913), .lit (.int .i32 769)], .agg [.lit (.int .i32 912), .lit (.int .i32 970), .lit (.int .i32 769)], .agg [.lit (.int .i32 940), .lit (.int .i32 945), .lit (.int .i32 769)], .agg [.lit (.int .i32 943), .lit (.int .i32 953), .lit (.int .i32 769)], .agg [.lit (.int .i32 970), .lit (.int .i32 953), .lit (.int .i32 776)], .agg [.lit (.int .i32 972), .lit (.int .i32 959), .lit (.int .i32 769)], .agg [.lit (.int .i32 7691), .lit (.int .i32 100), .lit (.int .i32 775)], .agg [.lit (.int .i32 7693), .lit (.int .i32 100), .lit (.int .i32 803)], .agg [.lit (.int .i32 7777), .lit (.int .i32 115), .lit (.int .i32 775)], .agg [.lit (.int .i32 7779), .lit (.int .i32 115), .lit (.int .i32 803)], .agg [.lit (.int .i32 7785), .lit (.int .i32 7779), .lit (.int .i32 775)], .agg [.lit (.int .i32 7841), .lit (.int .i32 97), .lit (.int .i32 803)], .agg [.lit (.int .i32 7844), .lit (.int .i32 194), .lit (.int .i32 769)], .agg [.lit (.int .i32 7845), .lit (.int .i32 226), .lit (.int .i32 769)], .agg [.lit (.int .i32 7863), .lit (.int .i32 7841), .lit (.int .i32 774)], .agg [.lit (.int .i32 7865), .lit (.int .i32 101), .lit (.int .i32 803)], .agg [.lit (.int .i32 7879), .lit (.int .i32 7865), .lit (.int .i32 770)], .agg [.lit (.int .i32 8049), .lit (.int .i32 940), .lit (.int .i32 0)], .agg [.lit (.int .i32 8115), .lit (.int .i32 945), .lit (.int .i32 837)], .agg [.lit (.int .i32 8486), .lit (.int .i32 937), .lit (.int .i32 0)], .agg [.lit (.int .i32 8490), .lit (.int .i32 75), .lit (.int .i32 0)], .agg [.lit (.int .i32 8491), .lit (.int .i32 197), .lit (.int .i32 0)], .agg [.lit (.int .i32 8800), .lit (.int .i32 61), .lit (.int .i32 824)], .agg [.lit (.int .i32 12364), .lit (.int .i32 12363), .lit (.int .i32 12441)], .agg [.lit (.int .i32 12497), .lit (.int .i32 12495), .lit (.int .i32 12442)]]
def laid_trema_ucd_marks {H : Type} : DataW H := .agg [.lit (.int .i32 768), .lit (.int .i32 769), .lit (.int .i32 770), .lit (.int .i32 771), .lit (.int .i32 772), .lit (.int .i32 774), .lit (.int .i32 775), .lit (.int .i32 776), .lit (.int .i32 778), .lit (.int .i32 779), .lit (.int .i32 780), .lit (.int .i32 807), .lit (.int .i32 808)]

/-- 'tremalaw03.NormForms': WHATEVER THE INPUT: true; the input reads as it did. -/
def normFormsSpec : ChangeSpec := { name := "normForms", fn := fun _ => fun
  | [d1, d2] => { results := [.lit (.bool true)], args := [d1, d2] }
  | _ => none }
def normFormsRow : OpenClaim := { program := "ytiggjbclbdikmaadoor", sum := "947714850b6c7e904508cd12e9ffebb7374d344fe1bb2d9aa2d0a58fde45faa3", func := "trema/tremalaw03.NormForms", spec := "normForms", unfollowed := true, recurses := true, named := ["trema/ucd.pairs", "trema/ucd.marks", "trema/ucd.classes"], apart := false, laid := [("trema/ucd.classes", laid_trema_ucd_classes), ("trema/ucd.pairs", laid_trema_ucd_pairs), ("trema/ucd.marks", laid_trema_ucd_marks)] }
def NormFormsSaid : Prop := normFormsRow.holds Tryd.pinned (OpenSpec.ofChange normFormsSpec)

/-- ITS FALSE NEIGHBOUR: 'it returns false'. Refute it at one input. -/
def normFormsWrong : ChangeSpec := { name := "normForms", fn := fun _ => fun
  | [d1, d2] => { results := [.lit (.bool false)], args := [d1, d2] }
  | _ => none }
def NormFormsWrongFalsely : Prop := normFormsRow.holds Tryd.pinned (OpenSpec.ofChange normFormsWrong)

/-- 'tremalaw03.NormTexts': WHATEVER THE INPUT: true; the input reads as it did. -/
def normTextsSpec : ChangeSpec := { name := "normTexts", fn := fun _ => fun
  | [d] => { results := [.lit (.bool true)], args := [d] }
  | _ => none }
def normTextsRow : OpenClaim := { program := "ytiggjbclbdikmaadoor", sum := "947714850b6c7e904508cd12e9ffebb7374d344fe1bb2d9aa2d0a58fde45faa3", func := "trema/tremalaw03.NormTexts", spec := "normTexts", unfollowed := true, recurses := true, named := ["trema/ucd.pairs", "trema/ucd.marks", "trema/ucd.classes"], apart := false, laid := [("trema/ucd.classes", laid_trema_ucd_classes), ("trema/ucd.pairs", laid_trema_ucd_pairs), ("trema/ucd.marks", laid_trema_ucd_marks)] }
def NormTextsSaid : Prop := normTextsRow.holds Tryd.pinned (OpenSpec.ofChange normTextsSpec)

/-- ITS FALSE NEIGHBOUR: 'it returns false'. Refute it at one input. -/
def normTextsWrong : ChangeSpec := { name := "normTexts", fn := fun _ => fun
  | [d] => { results := [.lit (.bool false)], args := [d] }
  | _ => none }
def NormTextsWrongFalsely : Prop := normTextsRow.holds Tryd.pinned (OpenSpec.ofChange normTextsWrong)

/-- 'tremalaw03.NormOnce': WHATEVER THE INPUT: true; the input reads as it did. -/
def normOnceSpec : ChangeSpec := { name := "normOnce", fn := fun _ => fun
  | [d] => { results := [.lit (.bool true)], args := [d] }
  | _ => none }
def normOnceRow : OpenClaim := { program := "ytiggjbclbdikmaadoor", sum := "947714850b6c7e904508cd12e9ffebb7374d344fe1bb2d9aa2d0a58fde45faa3", func := "trema/tremalaw03.NormOnce", spec := "normOnce", unfollowed := true, recurses := true, named := ["trema/ucd.pairs", "trema/ucd.marks", "trema/ucd.classes"], apart := false, laid := [("trema/ucd.classes", laid_trema_ucd_classes), ("trema/ucd.pairs", laid_trema_ucd_pairs), ("trema/ucd.marks", laid_trema_ucd_marks)] }
def NormOnceSaid : Prop := normOnceRow.holds Tryd.pinned (OpenSpec.ofChange normOnceSpec)

/-- ITS FALSE NEIGHBOUR: 'it returns false'. Refute it at one input. -/
def normOnceWrong : ChangeSpec := { name := "normOnce", fn := fun _ => fun
  | [d] => { results := [.lit (.bool false)], args := [d] }
  | _ => none }
def NormOnceWrongFalsely : Prop := normOnceRow.holds Tryd.pinned (OpenSpec.ofChange normOnceWrong)

/-- 'tremalaw03.NormPieces': WHATEVER THE INPUT: true; the input reads as it did. -/
def normPiecesSpec : ChangeSpec := { name := "normPieces", fn := fun _ => fun
  | [d1, d2] => { results := [.lit (.bool true)], args := [d1, d2] }
  | _ => none }
def normPiecesRow : OpenClaim := { program := "ytiggjbclbdikmaadoor", sum := "947714850b6c7e904508cd12e9ffebb7374d344fe1bb2d9aa2d0a58fde45faa3", func := "trema/tremalaw03.NormPieces", spec := "normPieces", unfollowed := true, recurses := true, named := ["trema/ucd.pairs", "trema/ucd.marks", "trema/ucd.classes"], apart := false, laid := [("trema/ucd.classes", laid_trema_ucd_classes), ("trema/ucd.pairs", laid_trema_ucd_pairs), ("trema/ucd.marks", laid_trema_ucd_marks)] }
def NormPiecesSaid : Prop := normPiecesRow.holds Tryd.pinned (OpenSpec.ofChange normPiecesSpec)

/-- ITS FALSE NEIGHBOUR: 'it returns false'. Refute it at one input. -/
def normPiecesWrong : ChangeSpec := { name := "normPieces", fn := fun _ => fun
  | [d1, d2] => { results := [.lit (.bool false)], args := [d1, d2] }
  | _ => none }
def NormPiecesWrongFalsely : Prop := normPiecesRow.holds Tryd.pinned (OpenSpec.ofChange normPiecesWrong)

/-- 'tremalaw03.NormCuts': WHATEVER THE INPUT: true; the input reads as it did. -/
def normCutsSpec : ChangeSpec := { name := "normCuts", fn := fun _ => fun
  | [d1, d2] => { results := [.lit (.bool true)], args := [d1, d2] }
  | _ => none }
def normCutsRow : OpenClaim := { program := "ytiggjbclbdikmaadoor", sum := "947714850b6c7e904508cd12e9ffebb7374d344fe1bb2d9aa2d0a58fde45faa3", func := "trema/tremalaw03.NormCuts", spec := "normCuts", unfollowed := true, recurses := true, named := ["trema/ucd.pairs", "trema/ucd.marks", "trema/ucd.classes"], apart := false, laid := [("trema/ucd.classes", laid_trema_ucd_classes), ("trema/ucd.pairs", laid_trema_ucd_pairs), ("trema/ucd.marks", laid_trema_ucd_marks)] }
def NormCutsSaid : Prop := normCutsRow.holds Tryd.pinned (OpenSpec.ofChange normCutsSpec)

/-- ITS FALSE NEIGHBOUR: 'it returns false'. Refute it at one input. -/
def normCutsWrong : ChangeSpec := { name := "normCuts", fn := fun _ => fun
  | [d1, d2] => { results := [.lit (.bool false)], args := [d1, d2] }
  | _ => none }
def NormCutsWrongFalsely : Prop := normCutsRow.holds Tryd.pinned (OpenSpec.ofChange normCutsWrong)

/-- 'tremalaw03.NormSwaps': WHATEVER THE INPUT: true; the input reads as it did. -/
def normSwapsSpec : ChangeSpec := { name := "normSwaps", fn := fun _ => fun
  | [d1, d2, d3] => { results := [.lit (.bool true)], args := [d1, d2, d3] }
  | _ => none }
def normSwapsRow : OpenClaim := { program := "ytiggjbclbdikmaadoor", sum := "947714850b6c7e904508cd12e9ffebb7374d344fe1bb2d9aa2d0a58fde45faa3", func := "trema/tremalaw03.NormSwaps", spec := "normSwaps", unfollowed := true, recurses := true, named := ["trema/ucd.pairs", "trema/ucd.marks", "trema/ucd.classes"], apart := false, laid := [("trema/ucd.classes", laid_trema_ucd_classes), ("trema/ucd.pairs", laid_trema_ucd_pairs), ("trema/ucd.marks", laid_trema_ucd_marks)] }
def NormSwapsSaid : Prop := normSwapsRow.holds Tryd.pinned (OpenSpec.ofChange normSwapsSpec)

/-- ITS FALSE NEIGHBOUR: 'it returns false'. Refute it at one input. -/
def normSwapsWrong : ChangeSpec := { name := "normSwaps", fn := fun _ => fun
  | [d1, d2, d3] => { results := [.lit (.bool false)], args := [d1, d2, d3] }
  | _ => none }
def NormSwapsWrongFalsely : Prop := normSwapsRow.holds Tryd.pinned (OpenSpec.ofChange normSwapsWrong)

/-- 'tremalaw03.NormKeeps': WHATEVER THE INPUT: true; the input reads as it did. -/
def normKeepsSpec : ChangeSpec := { name := "normKeeps", fn := fun _ => fun
  | [d] => { results := [.lit (.bool true)], args := [d] }
  | _ => none }
def normKeepsRow : OpenClaim := { program := "ytiggjbclbdikmaadoor", sum := "947714850b6c7e904508cd12e9ffebb7374d344fe1bb2d9aa2d0a58fde45faa3", func := "trema/tremalaw03.NormKeeps", spec := "normKeeps", unfollowed := true, recurses := true, named := ["trema/ucd.pairs", "trema/ucd.marks", "trema/ucd.classes"], apart := false, laid := [("trema/ucd.classes", laid_trema_ucd_classes), ("trema/ucd.pairs", laid_trema_ucd_pairs), ("trema/ucd.marks", laid_trema_ucd_marks)] }
def NormKeepsSaid : Prop := normKeepsRow.holds Tryd.pinned (OpenSpec.ofChange normKeepsSpec)

/-- ITS FALSE NEIGHBOUR: 'it returns false'. Refute it at one input. -/
def normKeepsWrong : ChangeSpec := { name := "normKeeps", fn := fun _ => fun
  | [d] => { results := [.lit (.bool false)], args := [d] }
  | _ => none }
def NormKeepsWrongFalsely : Prop := normKeepsRow.holds Tryd.pinned (OpenSpec.ofChange normKeepsWrong)

/-- 'tremalaw03.NormStarters': WHATEVER THE INPUT: true; the input reads as it did. -/
def normStartersSpec : ChangeSpec := { name := "normStarters", fn := fun _ => fun
  | [d] => { results := [.lit (.bool true)], args := [d] }
  | _ => none }
def normStartersRow : OpenClaim := { program := "ytiggjbclbdikmaadoor", sum := "947714850b6c7e904508cd12e9ffebb7374d344fe1bb2d9aa2d0a58fde45faa3", func := "trema/tremalaw03.NormStarters", spec := "normStarters", unfollowed := true, recurses := true, named := ["trema/ucd.pairs", "trema/ucd.marks", "trema/ucd.classes"], apart := false, laid := [("trema/ucd.classes", laid_trema_ucd_classes), ("trema/ucd.pairs", laid_trema_ucd_pairs), ("trema/ucd.marks", laid_trema_ucd_marks)] }
def NormStartersSaid : Prop := normStartersRow.holds Tryd.pinned (OpenSpec.ofChange normStartersSpec)

/-- ITS FALSE NEIGHBOUR: 'it returns false'. Refute it at one input. -/
def normStartersWrong : ChangeSpec := { name := "normStarters", fn := fun _ => fun
  | [d] => { results := [.lit (.bool false)], args := [d] }
  | _ => none }
def NormStartersWrongFalsely : Prop := normStartersRow.holds Tryd.pinned (OpenSpec.ofChange normStartersWrong)

/-- 'tremalaw03.NormStable': WHATEVER THE INPUT: true; the input reads as it did. -/
def normStableSpec : ChangeSpec := { name := "normStable", fn := fun _ => fun
  | [d1, d2] => { results := [.lit (.bool true)], args := [d1, d2] }
  | _ => none }
def normStableRow : OpenClaim := { program := "ytiggjbclbdikmaadoor", sum := "947714850b6c7e904508cd12e9ffebb7374d344fe1bb2d9aa2d0a58fde45faa3", func := "trema/tremalaw03.NormStable", spec := "normStable", unfollowed := true, recurses := true, named := ["trema/ucd.pairs", "trema/ucd.marks", "trema/ucd.classes"], apart := false, laid := [("trema/ucd.classes", laid_trema_ucd_classes), ("trema/ucd.pairs", laid_trema_ucd_pairs), ("trema/ucd.marks", laid_trema_ucd_marks)] }
def NormStableSaid : Prop := normStableRow.holds Tryd.pinned (OpenSpec.ofChange normStableSpec)

/-- ITS FALSE NEIGHBOUR: 'it returns false'. Refute it at one input. -/
def normStableWrong : ChangeSpec := { name := "normStable", fn := fun _ => fun
  | [d1, d2] => { results := [.lit (.bool false)], args := [d1, d2] }
  | _ => none }
def NormStableWrongFalsely : Prop := normStableRow.holds Tryd.pinned (OpenSpec.ofChange normStableWrong)

/-- 'tremalaw04.SegSplits': WHATEVER THE INPUT: true; the input reads as it did. -/
def segSplitsSpec : ChangeSpec := { name := "segSplits", fn := fun _ => fun
  | [d1, d2] => { results := [.lit (.bool true)], args := [d1, d2] }
  | _ => none }
def segSplitsRow : OpenClaim := { program := "ytiggjbclbdikmaadoor", sum := "947714850b6c7e904508cd12e9ffebb7374d344fe1bb2d9aa2d0a58fde45faa3", func := "trema/tremalaw04.SegSplits", spec := "segSplits", unfollowed := true, recurses := true, named := ["trema/ucd.pairs", "trema/ucd.marks", "trema/ucd.classes"], apart := false, laid := [("trema/ucd.classes", laid_trema_ucd_classes), ("trema/ucd.pairs", laid_trema_ucd_pairs), ("trema/ucd.marks", laid_trema_ucd_marks)] }
def SegSplitsSaid : Prop := segSplitsRow.holds Tryd.pinned (OpenSpec.ofChange segSplitsSpec)

/-- ITS FALSE NEIGHBOUR: 'it returns false'. Refute it at one input. -/
def segSplitsWrong : ChangeSpec := { name := "segSplits", fn := fun _ => fun
  | [d1, d2] => { results := [.lit (.bool false)], args := [d1, d2] }
  | _ => none }
def SegSplitsWrongFalsely : Prop := segSplitsRow.holds Tryd.pinned (OpenSpec.ofChange segSplitsWrong)

/-- 'tremalaw04.SegChunks': WHATEVER THE INPUT: true; the input reads as it did. -/
def segChunksSpec : ChangeSpec := { name := "segChunks", fn := fun _ => fun
  | [d1, d2, d3] => { results := [.lit (.bool true)], args := [d1, d2, d3] }
  | _ => none }
def segChunksRow : OpenClaim := { program := "ytiggjbclbdikmaadoor", sum := "947714850b6c7e904508cd12e9ffebb7374d344fe1bb2d9aa2d0a58fde45faa3", func := "trema/tremalaw04.SegChunks", spec := "segChunks", unfollowed := true, recurses := true, named := ["trema/ucd.pairs", "trema/ucd.marks", "trema/ucd.classes"], apart := false, laid := [("trema/ucd.classes", laid_trema_ucd_classes), ("trema/ucd.pairs", laid_trema_ucd_pairs), ("trema/ucd.marks", laid_trema_ucd_marks)] }
def SegChunksSaid : Prop := segChunksRow.holds Tryd.pinned (OpenSpec.ofChange segChunksSpec)

/-- ITS FALSE NEIGHBOUR: 'it returns false'. Refute it at one input. -/
def segChunksWrong : ChangeSpec := { name := "segChunks", fn := fun _ => fun
  | [d1, d2, d3] => { results := [.lit (.bool false)], args := [d1, d2, d3] }
  | _ => none }
def SegChunksWrongFalsely : Prop := segChunksRow.holds Tryd.pinned (OpenSpec.ofChange segChunksWrong)

/-- 'tremalaw04.SegFills': WHATEVER THE INPUT: true; the input reads as it did. -/
def segFillsSpec : ChangeSpec := { name := "segFills", fn := fun _ => fun
  | [d] => { results := [.lit (.bool true)], args := [d] }
  | _ => none }
def segFillsRow : OpenClaim := { program := "ytiggjbclbdikmaadoor", sum := "947714850b6c7e904508cd12e9ffebb7374d344fe1bb2d9aa2d0a58fde45faa3", func := "trema/tremalaw04.SegFills", spec := "segFills", unfollowed := true, recurses := true, named := ["trema/ucd.pairs", "trema/ucd.marks", "trema/ucd.classes"], apart := false, laid := [("trema/ucd.classes", laid_trema_ucd_classes), ("trema/ucd.pairs", laid_trema_ucd_pairs), ("trema/ucd.marks", laid_trema_ucd_marks)] }
def SegFillsSaid : Prop := segFillsRow.holds Tryd.pinned (OpenSpec.ofChange segFillsSpec)

/-- ITS FALSE NEIGHBOUR: 'it returns false'. Refute it at one input. -/
def segFillsWrong : ChangeSpec := { name := "segFills", fn := fun _ => fun
  | [d] => { results := [.lit (.bool false)], args := [d] }
  | _ => none }
def SegFillsWrongFalsely : Prop := segFillsRow.holds Tryd.pinned (OpenSpec.ofChange segFillsWrong)

/-- 'tremalaw04.SegSame': WHATEVER THE INPUT: true; the input reads as it did. -/
def segSameSpec : ChangeSpec := { name := "segSame", fn := fun _ => fun
  | [d1, d2] => { results := [.lit (.bool true)], args := [d1, d2] }
  | _ => none }
def segSameRow : OpenClaim := { program := "ytiggjbclbdikmaadoor", sum := "947714850b6c7e904508cd12e9ffebb7374d344fe1bb2d9aa2d0a58fde45faa3", func := "trema/tremalaw04.SegSame", spec := "segSame", unfollowed := true, recurses := true, named := ["trema/ucd.pairs", "trema/ucd.marks", "trema/ucd.classes"], apart := false, laid := [("trema/ucd.classes", laid_trema_ucd_classes), ("trema/ucd.pairs", laid_trema_ucd_pairs), ("trema/ucd.marks", laid_trema_ucd_marks)] }
def SegSameSaid : Prop := segSameRow.holds Tryd.pinned (OpenSpec.ofChange segSameSpec)

/-- ITS FALSE NEIGHBOUR: 'it returns false'. Refute it at one input. -/
def segSameWrong : ChangeSpec := { name := "segSame", fn := fun _ => fun
  | [d1, d2] => { results := [.lit (.bool false)], args := [d1, d2] }
  | _ => none }
def SegSameWrongFalsely : Prop := segSameRow.holds Tryd.pinned (OpenSpec.ofChange segSameWrong)

/-- 'tremalaw04.SegKeeps': WHATEVER THE INPUT: true; the input reads as it did. -/
def segKeepsSpec : ChangeSpec := { name := "segKeeps", fn := fun _ => fun
  | [d1, d2] => { results := [.lit (.bool true)], args := [d1, d2] }
  | _ => none }
def segKeepsRow : OpenClaim := { program := "ytiggjbclbdikmaadoor", sum := "947714850b6c7e904508cd12e9ffebb7374d344fe1bb2d9aa2d0a58fde45faa3", func := "trema/tremalaw04.SegKeeps", spec := "segKeeps", unfollowed := true, recurses := true, named := ["trema/ucd.pairs", "trema/ucd.marks", "trema/ucd.classes"], apart := false, laid := [("trema/ucd.classes", laid_trema_ucd_classes), ("trema/ucd.pairs", laid_trema_ucd_pairs), ("trema/ucd.marks", laid_trema_ucd_marks)] }
def SegKeepsSaid : Prop := segKeepsRow.holds Tryd.pinned (OpenSpec.ofChange segKeepsSpec)

/-- ITS FALSE NEIGHBOUR: 'it returns false'. Refute it at one input. -/
def segKeepsWrong : ChangeSpec := { name := "segKeeps", fn := fun _ => fun
  | [d1, d2] => { results := [.lit (.bool false)], args := [d1, d2] }
  | _ => none }
def SegKeepsWrongFalsely : Prop := segKeepsRow.holds Tryd.pinned (OpenSpec.ofChange segKeepsWrong)

/-- 'tremalaw04.SegCounts': WHATEVER THE INPUT: true; the input reads as it did. -/
def segCountsSpec : ChangeSpec := { name := "segCounts", fn := fun _ => fun
  | [d] => { results := [.lit (.bool true)], args := [d] }
  | _ => none }
def segCountsRow : OpenClaim := { program := "ytiggjbclbdikmaadoor", sum := "947714850b6c7e904508cd12e9ffebb7374d344fe1bb2d9aa2d0a58fde45faa3", func := "trema/tremalaw04.SegCounts", spec := "segCounts", unfollowed := true, recurses := true, named := ["trema/ucd.pairs", "trema/ucd.marks", "trema/ucd.classes"], apart := false, laid := [("trema/ucd.classes", laid_trema_ucd_classes), ("trema/ucd.pairs", laid_trema_ucd_pairs), ("trema/ucd.marks", laid_trema_ucd_marks)] }
def SegCountsSaid : Prop := segCountsRow.holds Tryd.pinned (OpenSpec.ofChange segCountsSpec)

/-- ITS FALSE NEIGHBOUR: 'it returns false'. Refute it at one input. -/
def segCountsWrong : ChangeSpec := { name := "segCounts", fn := fun _ => fun
  | [d] => { results := [.lit (.bool false)], args := [d] }
  | _ => none }
def SegCountsWrongFalsely : Prop := segCountsRow.holds Tryd.pinned (OpenSpec.ofChange segCountsWrong)

/-- 'tremalaw04.SegJoins': WHATEVER THE INPUT: true; the input reads as it did. -/
def segJoinsSpec : ChangeSpec := { name := "segJoins", fn := fun _ => fun
  | [d1, d2] => { results := [.lit (.bool true)], args := [d1, d2] }
  | _ => none }
def segJoinsRow : OpenClaim := { program := "ytiggjbclbdikmaadoor", sum := "947714850b6c7e904508cd12e9ffebb7374d344fe1bb2d9aa2d0a58fde45faa3", func := "trema/tremalaw04.SegJoins", spec := "segJoins", unfollowed := true, recurses := true, named := ["trema/ucd.pairs", "trema/ucd.marks", "trema/ucd.classes"], apart := false, laid := [("trema/ucd.classes", laid_trema_ucd_classes), ("trema/ucd.pairs", laid_trema_ucd_pairs), ("trema/ucd.marks", laid_trema_ucd_marks)] }
def SegJoinsSaid : Prop := segJoinsRow.holds Tryd.pinned (OpenSpec.ofChange segJoinsSpec)

/-- ITS FALSE NEIGHBOUR: 'it returns false'. Refute it at one input. -/
def segJoinsWrong : ChangeSpec := { name := "segJoins", fn := fun _ => fun
  | [d1, d2] => { results := [.lit (.bool false)], args := [d1, d2] }
  | _ => none }
def SegJoinsWrongFalsely : Prop := segJoinsRow.holds Tryd.pinned (OpenSpec.ofChange segJoinsWrong)

/- THE SECOND FORM. 'bulk': how many values and letters a reading holds, each counted each time it is reached (what is shared counts as often as it is met; a slice's spare places count too). A statement '..UptoSaid' is the law's where the arguments, and the package variables that the reading takes, are together of bulk at most 1048576: NARROWER than '..Said'. Prove '..Said' where nothing that the law and all that it calls make is longer than what came in: it says more and counts as full. Else prove '..UptoSaid'. A law counts once. -/
mutual
def uptoBulk {H : Type} : DataW H → Nat
  | .lit (.string bytes) => bytes.length + 1
  | .lit _ => 1
  | .nil => 1
  | .ptr d => uptoBulk d + 1
  | .slice elems spare => uptoBulkAll elems + uptoBulkAll spare + 1
  | .agg parts => uptoBulkAll parts + 1
  | .iface _ d => uptoBulk d + 1
  | .map entries => uptoBulkEntries entries + 1
  | .held _ => 1
def uptoBulkAll {H : Type} : List (DataW H) → Nat
  | [] => 0
  | d :: r => uptoBulk d + uptoBulkAll r
def uptoBulkEntries {H : Type} : List (Lit × DataW H) → Nat
  | [] => 0
  | x :: r => uptoBulkEntry x + uptoBulkEntries r
def uptoBulkEntry {H : Type} : Lit × DataW H → Nat
  | (.string bytes, d) => bytes.length + uptoBulk d + 1
  | (_, d) => uptoBulk d + 1
 end
def uptoSmall : (H : Type) → List (DataW H) → Bool := fun _ ds => decide (uptoBulkAll ds ≤ 1048576)
def OpenSpec.upto (s : _root_.Go.ChangeSpec) : _root_.Go.OpenSpec := { _root_.Go.OpenSpec.ofChange s with cond := some uptoSmall }

/-- 'tremalaw03.NormForms', WHERE WHAT IT READS IS OF BULK AT MOST 1048576: true; the input reads as it did. -/
def normFormsUptoRow : OpenClaim := { program := "ytiggjbclbdikmaadoor", sum := "947714850b6c7e904508cd12e9ffebb7374d344fe1bb2d9aa2d0a58fde45faa3", func := "trema/tremalaw03.NormForms", spec := "normForms", unfollowed := true, recurses := true, named := ["trema/ucd.pairs", "trema/ucd.marks", "trema/ucd.classes"], apart := false, laid := [("trema/ucd.classes", laid_trema_ucd_classes), ("trema/ucd.pairs", laid_trema_ucd_pairs), ("trema/ucd.marks", laid_trema_ucd_marks)], narrowed := true }
def NormFormsUptoSaid : Prop := normFormsUptoRow.holds Tryd.pinned (OpenSpec.upto normFormsSpec)

/-- 'tremalaw03.NormTexts', WHERE WHAT IT READS IS OF BULK AT MOST 1048576: true; the input reads as it did. -/
def normTextsUptoRow : OpenClaim := { program := "ytiggjbclbdikmaadoor", sum := "947714850b6c7e904508cd12e9ffebb7374d344fe1bb2d9aa2d0a58fde45faa3", func := "trema/tremalaw03.NormTexts", spec := "normTexts", unfollowed := true, recurses := true, named := ["trema/ucd.pairs", "trema/ucd.marks", "trema/ucd.classes"], apart := false, laid := [("trema/ucd.classes", laid_trema_ucd_classes), ("trema/ucd.pairs", laid_trema_ucd_pairs), ("trema/ucd.marks", laid_trema_ucd_marks)], narrowed := true }
def NormTextsUptoSaid : Prop := normTextsUptoRow.holds Tryd.pinned (OpenSpec.upto normTextsSpec)

/-- 'tremalaw03.NormOnce', WHERE WHAT IT READS IS OF BULK AT MOST 1048576: true; the input reads as it did. -/
def normOnceUptoRow : OpenClaim := { program := "ytiggjbclbdikmaadoor", sum := "947714850b6c7e904508cd12e9ffebb7374d344fe1bb2d9aa2d0a58fde45faa3", func := "trema/tremalaw03.NormOnce", spec := "normOnce", unfollowed := true, recurses := true, named := ["trema/ucd.pairs", "trema/ucd.marks", "trema/ucd.classes"], apart := false, laid := [("trema/ucd.classes", laid_trema_ucd_classes), ("trema/ucd.pairs", laid_trema_ucd_pairs), ("trema/ucd.marks", laid_trema_ucd_marks)], narrowed := true }
def NormOnceUptoSaid : Prop := normOnceUptoRow.holds Tryd.pinned (OpenSpec.upto normOnceSpec)

/-- 'tremalaw03.NormPieces', WHERE WHAT IT READS IS OF BULK AT MOST 1048576: true; the input reads as it did. -/
def normPiecesUptoRow : OpenClaim := { program := "ytiggjbclbdikmaadoor", sum := "947714850b6c7e904508cd12e9ffebb7374d344fe1bb2d9aa2d0a58fde45faa3", func := "trema/tremalaw03.NormPieces", spec := "normPieces", unfollowed := true, recurses := true, named := ["trema/ucd.pairs", "trema/ucd.marks", "trema/ucd.classes"], apart := false, laid := [("trema/ucd.classes", laid_trema_ucd_classes), ("trema/ucd.pairs", laid_trema_ucd_pairs), ("trema/ucd.marks", laid_trema_ucd_marks)], narrowed := true }
def NormPiecesUptoSaid : Prop := normPiecesUptoRow.holds Tryd.pinned (OpenSpec.upto normPiecesSpec)

/-- 'tremalaw03.NormCuts', WHERE WHAT IT READS IS OF BULK AT MOST 1048576: true; the input reads as it did. -/
def normCutsUptoRow : OpenClaim := { program := "ytiggjbclbdikmaadoor", sum := "947714850b6c7e904508cd12e9ffebb7374d344fe1bb2d9aa2d0a58fde45faa3", func := "trema/tremalaw03.NormCuts", spec := "normCuts", unfollowed := true, recurses := true, named := ["trema/ucd.pairs", "trema/ucd.marks", "trema/ucd.classes"], apart := false, laid := [("trema/ucd.classes", laid_trema_ucd_classes), ("trema/ucd.pairs", laid_trema_ucd_pairs), ("trema/ucd.marks", laid_trema_ucd_marks)], narrowed := true }
def NormCutsUptoSaid : Prop := normCutsUptoRow.holds Tryd.pinned (OpenSpec.upto normCutsSpec)

/-- 'tremalaw03.NormSwaps', WHERE WHAT IT READS IS OF BULK AT MOST 1048576: true; the input reads as it did. -/
def normSwapsUptoRow : OpenClaim := { program := "ytiggjbclbdikmaadoor", sum := "947714850b6c7e904508cd12e9ffebb7374d344fe1bb2d9aa2d0a58fde45faa3", func := "trema/tremalaw03.NormSwaps", spec := "normSwaps", unfollowed := true, recurses := true, named := ["trema/ucd.pairs", "trema/ucd.marks", "trema/ucd.classes"], apart := false, laid := [("trema/ucd.classes", laid_trema_ucd_classes), ("trema/ucd.pairs", laid_trema_ucd_pairs), ("trema/ucd.marks", laid_trema_ucd_marks)], narrowed := true }
def NormSwapsUptoSaid : Prop := normSwapsUptoRow.holds Tryd.pinned (OpenSpec.upto normSwapsSpec)

/-- 'tremalaw03.NormKeeps', WHERE WHAT IT READS IS OF BULK AT MOST 1048576: true; the input reads as it did. -/
def normKeepsUptoRow : OpenClaim := { program := "ytiggjbclbdikmaadoor", sum := "947714850b6c7e904508cd12e9ffebb7374d344fe1bb2d9aa2d0a58fde45faa3", func := "trema/tremalaw03.NormKeeps", spec := "normKeeps", unfollowed := true, recurses := true, named := ["trema/ucd.pairs", "trema/ucd.marks", "trema/ucd.classes"], apart := false, laid := [("trema/ucd.classes", laid_trema_ucd_classes), ("trema/ucd.pairs", laid_trema_ucd_pairs), ("trema/ucd.marks", laid_trema_ucd_marks)], narrowed := true }
def NormKeepsUptoSaid : Prop := normKeepsUptoRow.holds Tryd.pinned (OpenSpec.upto normKeepsSpec)

/-- 'tremalaw03.NormStarters', WHERE WHAT IT READS IS OF BULK AT MOST 1048576: true; the input reads as it did. -/
def normStartersUptoRow : OpenClaim := { program := "ytiggjbclbdikmaadoor", sum := "947714850b6c7e904508cd12e9ffebb7374d344fe1bb2d9aa2d0a58fde45faa3", func := "trema/tremalaw03.NormStarters", spec := "normStarters", unfollowed := true, recurses := true, named := ["trema/ucd.pairs", "trema/ucd.marks", "trema/ucd.classes"], apart := false, laid := [("trema/ucd.classes", laid_trema_ucd_classes), ("trema/ucd.pairs", laid_trema_ucd_pairs), ("trema/ucd.marks", laid_trema_ucd_marks)], narrowed := true }
def NormStartersUptoSaid : Prop := normStartersUptoRow.holds Tryd.pinned (OpenSpec.upto normStartersSpec)

/-- 'tremalaw03.NormStable', WHERE WHAT IT READS IS OF BULK AT MOST 1048576: true; the input reads as it did. -/
def normStableUptoRow : OpenClaim := { program := "ytiggjbclbdikmaadoor", sum := "947714850b6c7e904508cd12e9ffebb7374d344fe1bb2d9aa2d0a58fde45faa3", func := "trema/tremalaw03.NormStable", spec := "normStable", unfollowed := true, recurses := true, named := ["trema/ucd.pairs", "trema/ucd.marks", "trema/ucd.classes"], apart := false, laid := [("trema/ucd.classes", laid_trema_ucd_classes), ("trema/ucd.pairs", laid_trema_ucd_pairs), ("trema/ucd.marks", laid_trema_ucd_marks)], narrowed := true }
def NormStableUptoSaid : Prop := normStableUptoRow.holds Tryd.pinned (OpenSpec.upto normStableSpec)

/-- 'tremalaw04.SegSplits', WHERE WHAT IT READS IS OF BULK AT MOST 1048576: true; the input reads as it did. -/
def segSplitsUptoRow : OpenClaim := { program := "ytiggjbclbdikmaadoor", sum := "947714850b6c7e904508cd12e9ffebb7374d344fe1bb2d9aa2d0a58fde45faa3", func := "trema/tremalaw04.SegSplits", spec := "segSplits", unfollowed := true, recurses := true, named := ["trema/ucd.pairs", "trema/ucd.marks", "trema/ucd.classes"], apart := false, laid := [("trema/ucd.classes", laid_trema_ucd_classes), ("trema/ucd.pairs", laid_trema_ucd_pairs), ("trema/ucd.marks", laid_trema_ucd_marks)], narrowed := true }
def SegSplitsUptoSaid : Prop := segSplitsUptoRow.holds Tryd.pinned (OpenSpec.upto segSplitsSpec)

/-- 'tremalaw04.SegChunks', WHERE WHAT IT READS IS OF BULK AT MOST 1048576: true; the input reads as it did. -/
def segChunksUptoRow : OpenClaim := { program := "ytiggjbclbdikmaadoor", sum := "947714850b6c7e904508cd12e9ffebb7374d344fe1bb2d9aa2d0a58fde45faa3", func := "trema/tremalaw04.SegChunks", spec := "segChunks", unfollowed := true, recurses := true, named := ["trema/ucd.pairs", "trema/ucd.marks", "trema/ucd.classes"], apart := false, laid := [("trema/ucd.classes", laid_trema_ucd_classes), ("trema/ucd.pairs", laid_trema_ucd_pairs), ("trema/ucd.marks", laid_trema_ucd_marks)], narrowed := true }
def SegChunksUptoSaid : Prop := segChunksUptoRow.holds Tryd.pinned (OpenSpec.upto segChunksSpec)

/-- 'tremalaw04.SegFills', WHERE WHAT IT READS IS OF BULK AT MOST 1048576: true; the input reads as it did. -/
def segFillsUptoRow : OpenClaim := { program := "ytiggjbclbdikmaadoor", sum := "947714850b6c7e904508cd12e9ffebb7374d344fe1bb2d9aa2d0a58fde45faa3", func := "trema/tremalaw04.SegFills", spec := "segFills", unfollowed := true, recurses := true, named := ["trema/ucd.pairs", "trema/ucd.marks", "trema/ucd.classes"], apart := false, laid := [("trema/ucd.classes", laid_trema_ucd_classes), ("trema/ucd.pairs", laid_trema_ucd_pairs), ("trema/ucd.marks", laid_trema_ucd_marks)], narrowed := true }
def SegFillsUptoSaid : Prop := segFillsUptoRow.holds Tryd.pinned (OpenSpec.upto segFillsSpec)

/-- 'tremalaw04.SegSame', WHERE WHAT IT READS IS OF BULK AT MOST 1048576: true; the input reads as it did. -/
def segSameUptoRow : OpenClaim := { program := "ytiggjbclbdikmaadoor", sum := "947714850b6c7e904508cd12e9ffebb7374d344fe1bb2d9aa2d0a58fde45faa3", func := "trema/tremalaw04.SegSame", spec := "segSame", unfollowed := true, recurses := true, named := ["trema/ucd.pairs", "trema/ucd.marks", "trema/ucd.classes"], apart := false, laid := [("trema/ucd.classes", laid_trema_ucd_classes), ("trema/ucd.pairs", laid_trema_ucd_pairs), ("trema/ucd.marks", laid_trema_ucd_marks)], narrowed := true }
def SegSameUptoSaid : Prop := segSameUptoRow.holds Tryd.pinned (OpenSpec.upto segSameSpec)

/-- 'tremalaw04.SegKeeps', WHERE WHAT IT READS IS OF BULK AT MOST 1048576: true; the input reads as it did. -/
def segKeepsUptoRow : OpenClaim := { program := "ytiggjbclbdikmaadoor", sum := "947714850b6c7e904508cd12e9ffebb7374d344fe1bb2d9aa2d0a58fde45faa3", func := "trema/tremalaw04.SegKeeps", spec := "segKeeps", unfollowed := true, recurses := true, named := ["trema/ucd.pairs", "trema/ucd.marks", "trema/ucd.classes"], apart := false, laid := [("trema/ucd.classes", laid_trema_ucd_classes), ("trema/ucd.pairs", laid_trema_ucd_pairs), ("trema/ucd.marks", laid_trema_ucd_marks)], narrowed := true }
def SegKeepsUptoSaid : Prop := segKeepsUptoRow.holds Tryd.pinned (OpenSpec.upto segKeepsSpec)

/-- 'tremalaw04.SegCounts', WHERE WHAT IT READS IS OF BULK AT MOST 1048576: true; the input reads as it did. -/
def segCountsUptoRow : OpenClaim := { program := "ytiggjbclbdikmaadoor", sum := "947714850b6c7e904508cd12e9ffebb7374d344fe1bb2d9aa2d0a58fde45faa3", func := "trema/tremalaw04.SegCounts", spec := "segCounts", unfollowed := true, recurses := true, named := ["trema/ucd.pairs", "trema/ucd.marks", "trema/ucd.classes"], apart := false, laid := [("trema/ucd.classes", laid_trema_ucd_classes), ("trema/ucd.pairs", laid_trema_ucd_pairs), ("trema/ucd.marks", laid_trema_ucd_marks)], narrowed := true }
def SegCountsUptoSaid : Prop := segCountsUptoRow.holds Tryd.pinned (OpenSpec.upto segCountsSpec)

/-- 'tremalaw04.SegJoins', WHERE WHAT IT READS IS OF BULK AT MOST 1048576: true; the input reads as it did. -/
def segJoinsUptoRow : OpenClaim := { program := "ytiggjbclbdikmaadoor", sum := "947714850b6c7e904508cd12e9ffebb7374d344fe1bb2d9aa2d0a58fde45faa3", func := "trema/tremalaw04.SegJoins", spec := "segJoins", unfollowed := true, recurses := true, named := ["trema/ucd.pairs", "trema/ucd.marks", "trema/ucd.classes"], apart := false, laid := [("trema/ucd.classes", laid_trema_ucd_classes), ("trema/ucd.pairs", laid_trema_ucd_pairs), ("trema/ucd.marks", laid_trema_ucd_marks)], narrowed := true }
def SegJoinsUptoSaid : Prop := segJoinsUptoRow.holds Tryd.pinned (OpenSpec.upto segJoinsSpec)

end Rows
end Go.Proofs.YtiggjbclbdikmaaDoor
