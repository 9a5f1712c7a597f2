/-
  NARROWER THAN 'FOR EVERY INPUT', by the rows' own cells (each row's printed sentence says how): SegChunks: laid · SegKeeps: laid · UcdRanges: laid · WordsTells: laid · WordsJoins: laid · WordsKeys: laid · WordsSame: laid · WordsApart: laid · WordsCases: laid · WordsBeside: laid.
  DERIVED. THE GIVEN ROWS OF THIS SEAT. 10 by the template 'for every input the law returns true; each argument reads behind the call as it read before'; 0 by the template 'total and deterministic' (their statements: YthffpkdadffinaaDoorTotals.lean).
  GIVEN WITH THE SEED: the statements are not yours to turn. If you find one false, say at which input.
  Laid BY PROGRAM, IN A SANDBOX (cutbox-rows.mjs): the forced cells as the released guide's own fill.sh prints them over the translation d9756370cf929d4e… (all of the seat's roots in one cut). By AI agents, Wed Nov 11 2026. No macro, syntax, notation, axiom, sorry.
-/
import Derived.Test.YthffpkdadffinaaDoorChecked
import GoSem.Claim
import GoSem.ClaimJoined
import GoSem.ClaimMapViews
import Derived.JoinedTies
import Derived.KernelRfl
namespace Go.Proofs.YthffpkdadffinaaDoor
/- THE CELL 'sum', in the pinned program and in every row, IS THE sha256 OF THE DUMP (.gsa) THAT YthffpkdadffinaaDoorProg.lean LOADS. Nothing in Lean hashes anything: it is a label: what it is worth is what the hold of that sum in a sandbox is worth. -/
noncomputable def Tryd.pinned : Pinned := { name := "ythffpkdadffinaadoor", sum := "d9756370cf929d4eccbbb334a65645f37b95a7614deafc48bb05f36002dcd226", checked := Tryd.checked }
namespace Rows
def none {H : Type} : Left H := { results := [], args := [] }

/- WHAT THE LISTED PACKAGE-LEVEL VARIABLES READ AS WHEN THE CALL BEGINS. Each datum BY PROGRAM (the guide's laid-datum.mjs) off the statement by which the dump's own 'gosem.cut.vars' lays the variable. In a bare row this is a premise. The card (YthffpkdadffinaaDoorCards.lean) ties it to the program's text. -/
def laid_trema_ucd_classes {H : Type} : DataW H := .agg [.agg [.lit (.int .i32 768), .lit (.int .i32 788), .lit (.int .i32 230)], .agg [.lit (.int .i32 789), .lit (.int .i32 789), .lit (.int .i32 232)], .agg [.lit (.int .i32 790), .lit (.int .i32 793), .lit (.int .i32 220)], .agg [.lit (.int .i32 794), .lit (.int .i32 794), .lit (.int .i32 232)], .agg [.lit (.int .i32 795), .lit (.int .i32 795), .lit (.int .i32 216)], .agg [.lit (.int .i32 796), .lit (.int .i32 800), .lit (.int .i32 220)], .agg [.lit (.int .i32 801), .lit (.int .i32 802), .lit (.int .i32 202)], .agg [.lit (.int .i32 803), .lit (.int .i32 806), .lit (.int .i32 220)], .agg [.lit (.int .i32 807), .lit (.int .i32 808), .lit (.int .i32 202)], .agg [.lit (.int .i32 809), .lit (.int .i32 819), .lit (.int .i32 220)], .agg [.lit (.int .i32 820), .lit (.int .i32 824), .lit (.int .i32 1)], .agg [.lit (.int .i32 825), .lit (.int .i32 828), .lit (.int .i32 220)], .agg [.lit (.int .i32 829), .lit (.int .i32 836), .lit (.int .i32 230)], .agg [.lit (.int .i32 837), .lit (.int .i32 837), .lit (.int .i32 240)], .agg [.lit (.int .i32 838), .lit (.int .i32 838), .lit (.int .i32 230)], .agg [.lit (.int .i32 839), .lit (.int .i32 841), .lit (.int .i32 220)], .agg [.lit (.int .i32 842), .lit (.int .i32 844), .lit (.int .i32 230)], .agg [.lit (.int .i32 845), .lit (.int .i32 846), .lit (.int .i32 220)], .agg [.lit (.int .i32 848), .lit (.int .i32 850), .lit (.int .i32 230)], .agg [.lit (.int .i32 851), .lit (.int .i32 854), .lit (.int .i32 220)], .agg [.lit (.int .i32 855), .lit (.int .i32 855), .lit (.int .i32 230)], .agg [.lit (.int .i32 8400), .lit (.int .i32 8401), .lit (.int .i32 230)], .agg [.lit (.int .i32 12441), .lit (.int .i32 12442), .lit (.int .i32 8)]]
def laid_trema_ucd_pairs {H : Type} : DataW H := .agg [.agg [.lit (.int .i32 469), .lit (.int .i32 220), .lit (.int .i32 772)], .agg [.lit (.int .i32 470), .lit (.int .i32 252), .lit (.int .i32 772)], .agg [.lit (.int .i32 832), .lit (.int .i32 768), .lit (.int .i32 0)], .agg [.lit (.int .i32 833), .lit (.int .i32 769), .lit (.int .i32 0)], .agg [.lit (.int .i32 835), .lit (.int .i32 787), .lit (.int .i32 0)], .agg [.lit (.int .i32 836), .lit (.int .i32 776), .lit (.int .i32 769)], .agg [.lit (.int .i32 902), .lit (.int .i32 913), .lit (.int .i32 769)], .agg [.lit (.int .i32 912), .lit (.int .i32 970), .lit (.int .i32 769)], .agg [.lit (.int .i32 940), .lit (.int .i32 945), .lit (.int .i32 769)], .agg [.lit (.int .i32 943), .lit (.int .i32 953), .lit (.int .i32 769)], .agg [.lit (.int .i32 970), .lit (.int .i32 953), .lit (.int .i32 776)], .agg [.lit (.int .i32 972), .lit (.int .i32 959), .lit (.int .i32 769)], .agg [.lit (.int .i32 7691), .lit (.int .i32 100), .lit (.int .i32 775)], .agg [.lit (.int .i32 7693), .lit (.int .i32 100), .lit (.int .i32 803)], .agg [.lit (.int .i32 7777), .lit (.int .i32 115), .lit (.int .i32 775)], .agg [.lit (.int .i32 7779), .lit (.int .i32 115), .lit (.int .i32 803)], .agg [.lit (.int .i32 7785), .lit (.int .i32 7779), .lit (.int .i32 775)], .agg [.lit (.int .i32 7841), .lit (.int .i32 97), .lit (.int .i32 803)], .agg [.lit (.int .i32 7844), .lit (.int .i32 194), .lit (.int .i32 769)], .agg [.lit (.int .i32 7845), .lit (.int .i32 226), .lit (.int .i32 769)], .agg [.lit (.int .i32 7863), .lit (.int .i32 7841), .lit (.int .i32 774)], .agg [.lit (.int .i32 7865), .lit (.int .i32 101), .lit (.int .i32 803)], .agg [.lit (.int .i32 7879), .lit (.int .i32 7865), .lit (.int .i32 770)], .agg [.lit (.int .i32 8049), .lit (.int .i32 940), .lit (.int .i32 0)], .agg [.lit (.int .i32 8115), .lit (.int .i32 945), .lit (.int .i32 837)], .agg [.lit (.int .i32 8486), .lit (.int .i32 937), .lit (.int .i32 0)], .agg [.lit (.int .i32 8490), .lit (.int .i32 75), .lit (.int .i32 0)], .agg [.lit (.int .i32 8491), .lit (.int .i32 197), .lit (.int .i32 0)], .agg [.lit (.int .i32 8800), .lit (.int .i32 61), .lit (.int .i32 824)], .agg [.lit (.int .i32 12364), .lit (.int .i32 12363), .lit (.int .i32 12441)], .agg [.lit (.int .i32 12497), .lit (.int .i32 12495), .lit (.int .i32 12442)]]
def laid_trema_ucd_marks {H : Type} : DataW H := .agg [.lit (.int .i32 768), .lit (.int .i32 769), .lit (.int .i32 770), .lit (.int .i32 771), .lit (.int .i32 772), .lit (.int .i32 774), .lit (.int .i32 775), .lit (.int .i32 776), .lit (.int .i32 778), .lit (.int .i32 779), .lit (.int .i32 780), .lit (.int .i32 807), .lit (.int .i32 808)]

/-- 'tremalaw04.SegChunks': WHATEVER THE INPUT: true; the input reads as it did. -/
def segChunksSpec : ChangeSpec := { name := "segChunks", fn := fun _ => fun
  | [d1, d2, d3] => { results := [.lit (.bool true)], args := [d1, d2, d3] }
  | _ => none }
def segChunksRow : OpenClaim := { program := "ythffpkdadffinaadoor", sum := "d9756370cf929d4eccbbb334a65645f37b95a7614deafc48bb05f36002dcd226", func := "trema/tremalaw04.SegChunks", spec := "segChunks", unfollowed := true, recurses := true, named := ["trema/ucd.pairs", "trema/ucd.marks", "trema/ucd.classes"], apart := false, laid := [("trema/ucd.classes", laid_trema_ucd_classes), ("trema/ucd.pairs", laid_trema_ucd_pairs), ("trema/ucd.marks", laid_trema_ucd_marks)] }
def SegChunksSaid : Prop := segChunksRow.holds Tryd.pinned (OpenSpec.ofChange segChunksSpec)

/-- ITS FALSE NEIGHBOUR: 'it returns false'. Refute it at one input. -/
def segChunksWrong : ChangeSpec := { name := "segChunks", fn := fun _ => fun
  | [d1, d2, d3] => { results := [.lit (.bool false)], args := [d1, d2, d3] }
  | _ => none }
def SegChunksWrongFalsely : Prop := segChunksRow.holds Tryd.pinned (OpenSpec.ofChange segChunksWrong)

/-- 'tremalaw04.SegKeeps': WHATEVER THE INPUT: true; the input reads as it did. -/
def segKeepsSpec : ChangeSpec := { name := "segKeeps", fn := fun _ => fun
  | [d1, d2] => { results := [.lit (.bool true)], args := [d1, d2] }
  | _ => none }
def segKeepsRow : OpenClaim := { program := "ythffpkdadffinaadoor", sum := "d9756370cf929d4eccbbb334a65645f37b95a7614deafc48bb05f36002dcd226", func := "trema/tremalaw04.SegKeeps", spec := "segKeeps", unfollowed := true, recurses := true, named := ["trema/ucd.pairs", "trema/ucd.marks", "trema/ucd.classes"], apart := false, laid := [("trema/ucd.classes", laid_trema_ucd_classes), ("trema/ucd.pairs", laid_trema_ucd_pairs), ("trema/ucd.marks", laid_trema_ucd_marks)] }
def SegKeepsSaid : Prop := segKeepsRow.holds Tryd.pinned (OpenSpec.ofChange segKeepsSpec)

/-- ITS FALSE NEIGHBOUR: 'it returns false'. Refute it at one input. -/
def segKeepsWrong : ChangeSpec := { name := "segKeeps", fn := fun _ => fun
  | [d1, d2] => { results := [.lit (.bool false)], args := [d1, d2] }
  | _ => none }
def SegKeepsWrongFalsely : Prop := segKeepsRow.holds Tryd.pinned (OpenSpec.ofChange segKeepsWrong)

/-- 'tremalaw02.UcdRanges': WHATEVER THE INPUT: true; the input reads as it did. -/
def ucdRangesSpec : ChangeSpec := { name := "ucdRanges", fn := fun _ => fun
  | [d1, d2] => { results := [.lit (.bool true)], args := [d1, d2] }
  | _ => none }
def ucdRangesRow : OpenClaim := { program := "ythffpkdadffinaadoor", sum := "d9756370cf929d4eccbbb334a65645f37b95a7614deafc48bb05f36002dcd226", func := "trema/tremalaw02.UcdRanges", spec := "ucdRanges", unfollowed := true, recurses := true, named := ["trema/ucd.pairs", "trema/ucd.marks", "trema/ucd.classes"], apart := false, laid := [("trema/ucd.classes", laid_trema_ucd_classes), ("trema/ucd.pairs", laid_trema_ucd_pairs), ("trema/ucd.marks", laid_trema_ucd_marks)] }
def UcdRangesSaid : Prop := ucdRangesRow.holds Tryd.pinned (OpenSpec.ofChange ucdRangesSpec)

/-- ITS FALSE NEIGHBOUR: 'it returns false'. Refute it at one input. -/
def ucdRangesWrong : ChangeSpec := { name := "ucdRanges", fn := fun _ => fun
  | [d1, d2] => { results := [.lit (.bool false)], args := [d1, d2] }
  | _ => none }
def UcdRangesWrongFalsely : Prop := ucdRangesRow.holds Tryd.pinned (OpenSpec.ofChange ucdRangesWrong)

/-- 'tremalaw13.WordsTells': WHATEVER THE INPUT: true; the input reads as it did. -/
def wordsTellsSpec : ChangeSpec := { name := "wordsTells", fn := fun _ => fun
  | [d1, d2] => { results := [.lit (.bool true)], args := [d1, d2] }
  | _ => none }
def wordsTellsRow : OpenClaim := { program := "ythffpkdadffinaadoor", sum := "d9756370cf929d4eccbbb334a65645f37b95a7614deafc48bb05f36002dcd226", func := "trema/tremalaw13.WordsTells", spec := "wordsTells", unfollowed := true, recurses := true, named := ["trema/ucd.pairs", "trema/ucd.marks", "trema/ucd.classes"], apart := false, laid := [("trema/ucd.classes", laid_trema_ucd_classes), ("trema/ucd.pairs", laid_trema_ucd_pairs), ("trema/ucd.marks", laid_trema_ucd_marks)] }
def WordsTellsSaid : Prop := wordsTellsRow.holds Tryd.pinned (OpenSpec.ofChange wordsTellsSpec)

/-- ITS FALSE NEIGHBOUR: 'it returns false'. Refute it at one input. -/
def wordsTellsWrong : ChangeSpec := { name := "wordsTells", fn := fun _ => fun
  | [d1, d2] => { results := [.lit (.bool false)], args := [d1, d2] }
  | _ => none }
def WordsTellsWrongFalsely : Prop := wordsTellsRow.holds Tryd.pinned (OpenSpec.ofChange wordsTellsWrong)

/-- 'tremalaw13.WordsJoins': WHATEVER THE INPUT: true; the input reads as it did. -/
def wordsJoinsSpec : ChangeSpec := { name := "wordsJoins", fn := fun _ => fun
  | [d] => { results := [.lit (.bool true)], args := [d] }
  | _ => none }
def wordsJoinsRow : OpenClaim := { program := "ythffpkdadffinaadoor", sum := "d9756370cf929d4eccbbb334a65645f37b95a7614deafc48bb05f36002dcd226", func := "trema/tremalaw13.WordsJoins", spec := "wordsJoins", unfollowed := true, recurses := true, named := ["trema/ucd.pairs", "trema/ucd.marks", "trema/ucd.classes"], apart := false, laid := [("trema/ucd.classes", laid_trema_ucd_classes), ("trema/ucd.pairs", laid_trema_ucd_pairs), ("trema/ucd.marks", laid_trema_ucd_marks)] }
def WordsJoinsSaid : Prop := wordsJoinsRow.holds Tryd.pinned (OpenSpec.ofChange wordsJoinsSpec)

/-- ITS FALSE NEIGHBOUR: 'it returns false'. Refute it at one input. -/
def wordsJoinsWrong : ChangeSpec := { name := "wordsJoins", fn := fun _ => fun
  | [d] => { results := [.lit (.bool false)], args := [d] }
  | _ => none }
def WordsJoinsWrongFalsely : Prop := wordsJoinsRow.holds Tryd.pinned (OpenSpec.ofChange wordsJoinsWrong)

/-- 'tremalaw13.WordsKeys': WHATEVER THE INPUT: true; the input reads as it did. -/
def wordsKeysSpec : ChangeSpec := { name := "wordsKeys", fn := fun _ => fun
  | [d1, d2] => { results := [.lit (.bool true)], args := [d1, d2] }
  | _ => none }
def wordsKeysRow : OpenClaim := { program := "ythffpkdadffinaadoor", sum := "d9756370cf929d4eccbbb334a65645f37b95a7614deafc48bb05f36002dcd226", func := "trema/tremalaw13.WordsKeys", spec := "wordsKeys", unfollowed := true, recurses := true, named := ["trema/ucd.pairs", "trema/ucd.marks", "trema/ucd.classes"], apart := false, laid := [("trema/ucd.classes", laid_trema_ucd_classes), ("trema/ucd.pairs", laid_trema_ucd_pairs), ("trema/ucd.marks", laid_trema_ucd_marks)] }
def WordsKeysSaid : Prop := wordsKeysRow.holds Tryd.pinned (OpenSpec.ofChange wordsKeysSpec)

/-- ITS FALSE NEIGHBOUR: 'it returns false'. Refute it at one input. -/
def wordsKeysWrong : ChangeSpec := { name := "wordsKeys", fn := fun _ => fun
  | [d1, d2] => { results := [.lit (.bool false)], args := [d1, d2] }
  | _ => none }
def WordsKeysWrongFalsely : Prop := wordsKeysRow.holds Tryd.pinned (OpenSpec.ofChange wordsKeysWrong)

/-- 'tremalaw13.WordsSame': WHATEVER THE INPUT: true; the input reads as it did. -/
def wordsSameSpec : ChangeSpec := { name := "wordsSame", fn := fun _ => fun
  | [d1, d2] => { results := [.lit (.bool true)], args := [d1, d2] }
  | _ => none }
def wordsSameRow : OpenClaim := { program := "ythffpkdadffinaadoor", sum := "d9756370cf929d4eccbbb334a65645f37b95a7614deafc48bb05f36002dcd226", func := "trema/tremalaw13.WordsSame", spec := "wordsSame", unfollowed := true, recurses := true, named := ["trema/ucd.pairs", "trema/ucd.marks", "trema/ucd.classes"], apart := false, laid := [("trema/ucd.classes", laid_trema_ucd_classes), ("trema/ucd.pairs", laid_trema_ucd_pairs), ("trema/ucd.marks", laid_trema_ucd_marks)] }
def WordsSameSaid : Prop := wordsSameRow.holds Tryd.pinned (OpenSpec.ofChange wordsSameSpec)

/-- ITS FALSE NEIGHBOUR: 'it returns false'. Refute it at one input. -/
def wordsSameWrong : ChangeSpec := { name := "wordsSame", fn := fun _ => fun
  | [d1, d2] => { results := [.lit (.bool false)], args := [d1, d2] }
  | _ => none }
def WordsSameWrongFalsely : Prop := wordsSameRow.holds Tryd.pinned (OpenSpec.ofChange wordsSameWrong)

/-- 'tremalaw13.WordsApart': WHATEVER THE INPUT: true; the input reads as it did. -/
def wordsApartSpec : ChangeSpec := { name := "wordsApart", fn := fun _ => fun
  | [d] => { results := [.lit (.bool true)], args := [d] }
  | _ => none }
def wordsApartRow : OpenClaim := { program := "ythffpkdadffinaadoor", sum := "d9756370cf929d4eccbbb334a65645f37b95a7614deafc48bb05f36002dcd226", func := "trema/tremalaw13.WordsApart", spec := "wordsApart", unfollowed := true, recurses := true, named := ["trema/ucd.pairs", "trema/ucd.marks", "trema/ucd.classes"], apart := false, laid := [("trema/ucd.classes", laid_trema_ucd_classes), ("trema/ucd.pairs", laid_trema_ucd_pairs), ("trema/ucd.marks", laid_trema_ucd_marks)] }
def WordsApartSaid : Prop := wordsApartRow.holds Tryd.pinned (OpenSpec.ofChange wordsApartSpec)

/-- ITS FALSE NEIGHBOUR: 'it returns false'. Refute it at one input. -/
def wordsApartWrong : ChangeSpec := { name := "wordsApart", fn := fun _ => fun
  | [d] => { results := [.lit (.bool false)], args := [d] }
  | _ => none }
def WordsApartWrongFalsely : Prop := wordsApartRow.holds Tryd.pinned (OpenSpec.ofChange wordsApartWrong)

/-- 'tremalaw13.WordsCases': WHATEVER THE INPUT: true; the input reads as it did. -/
def wordsCasesSpec : ChangeSpec := { name := "wordsCases", fn := fun _ => fun
  | [d] => { results := [.lit (.bool true)], args := [d] }
  | _ => none }
def wordsCasesRow : OpenClaim := { program := "ythffpkdadffinaadoor", sum := "d9756370cf929d4eccbbb334a65645f37b95a7614deafc48bb05f36002dcd226", func := "trema/tremalaw13.WordsCases", spec := "wordsCases", unfollowed := true, recurses := true, named := ["trema/ucd.pairs", "trema/ucd.marks", "trema/ucd.classes"], apart := false, laid := [("trema/ucd.classes", laid_trema_ucd_classes), ("trema/ucd.pairs", laid_trema_ucd_pairs), ("trema/ucd.marks", laid_trema_ucd_marks)] }
def WordsCasesSaid : Prop := wordsCasesRow.holds Tryd.pinned (OpenSpec.ofChange wordsCasesSpec)

/-- ITS FALSE NEIGHBOUR: 'it returns false'. Refute it at one input. -/
def wordsCasesWrong : ChangeSpec := { name := "wordsCases", fn := fun _ => fun
  | [d] => { results := [.lit (.bool false)], args := [d] }
  | _ => none }
def WordsCasesWrongFalsely : Prop := wordsCasesRow.holds Tryd.pinned (OpenSpec.ofChange wordsCasesWrong)

/-- 'tremalaw13.WordsBeside': WHATEVER THE INPUT: true; the input reads as it did. -/
def wordsBesideSpec : ChangeSpec := { name := "wordsBeside", fn := fun _ => fun
  | [d1, d2] => { results := [.lit (.bool true)], args := [d1, d2] }
  | _ => none }
def wordsBesideRow : OpenClaim := { program := "ythffpkdadffinaadoor", sum := "d9756370cf929d4eccbbb334a65645f37b95a7614deafc48bb05f36002dcd226", func := "trema/tremalaw13.WordsBeside", spec := "wordsBeside", unfollowed := true, recurses := true, named := ["trema/ucd.pairs", "trema/ucd.marks", "trema/ucd.classes"], apart := false, laid := [("trema/ucd.classes", laid_trema_ucd_classes), ("trema/ucd.pairs", laid_trema_ucd_pairs), ("trema/ucd.marks", laid_trema_ucd_marks)] }
def WordsBesideSaid : Prop := wordsBesideRow.holds Tryd.pinned (OpenSpec.ofChange wordsBesideSpec)

/-- ITS FALSE NEIGHBOUR: 'it returns false'. Refute it at one input. -/
def wordsBesideWrong : ChangeSpec := { name := "wordsBeside", fn := fun _ => fun
  | [d1, d2] => { results := [.lit (.bool false)], args := [d1, d2] }
  | _ => none }
def WordsBesideWrongFalsely : Prop := wordsBesideRow.holds Tryd.pinned (OpenSpec.ofChange wordsBesideWrong)

/- THE SECOND FORM. 'bulk': how many values and letters a reading holds, each counted each time it is reached (what is shared counts as often as it is met; a slice's spare places count too). A statement '..UptoSaid' is the law's where the arguments, and the package variables that the reading takes, are together of bulk at most 1048576: NARROWER than '..Said'. Prove '..Said' where nothing that the law and all that it calls make is longer than what came in: it says more and counts as full. Else prove '..UptoSaid'. A law counts once. -/
mutual
def uptoBulk {H : Type} : DataW H → Nat
  | .lit (.string bytes) => bytes.length + 1
  | .lit _ => 1
  | .nil => 1
  | .ptr d => uptoBulk d + 1
  | .slice elems spare => uptoBulkAll elems + uptoBulkAll spare + 1
  | .agg parts => uptoBulkAll parts + 1
  | .iface _ d => uptoBulk d + 1
  | .map entries => uptoBulkEntries entries + 1
  | .held _ => 1
def uptoBulkAll {H : Type} : List (DataW H) → Nat
  | [] => 0
  | d :: r => uptoBulk d + uptoBulkAll r
def uptoBulkEntries {H : Type} : List (Lit × DataW H) → Nat
  | [] => 0
  | x :: r => uptoBulkEntry x + uptoBulkEntries r
def uptoBulkEntry {H : Type} : Lit × DataW H → Nat
  | (.string bytes, d) => bytes.length + uptoBulk d + 1
  | (_, d) => uptoBulk d + 1
 end
def uptoSmall : (H : Type) → List (DataW H) → Bool := fun _ ds => decide (uptoBulkAll ds ≤ 1048576)
def OpenSpec.upto (s : _root_.Go.ChangeSpec) : _root_.Go.OpenSpec := { _root_.Go.OpenSpec.ofChange s with cond := some uptoSmall }

/-- 'tremalaw04.SegChunks', WHERE WHAT IT READS IS OF BULK AT MOST 1048576: true; the input reads as it did. -/
def segChunksUptoRow : OpenClaim := { program := "ythffpkdadffinaadoor", sum := "d9756370cf929d4eccbbb334a65645f37b95a7614deafc48bb05f36002dcd226", func := "trema/tremalaw04.SegChunks", spec := "segChunks", unfollowed := true, recurses := true, named := ["trema/ucd.pairs", "trema/ucd.marks", "trema/ucd.classes"], apart := false, laid := [("trema/ucd.classes", laid_trema_ucd_classes), ("trema/ucd.pairs", laid_trema_ucd_pairs), ("trema/ucd.marks", laid_trema_ucd_marks)], narrowed := true }
def SegChunksUptoSaid : Prop := segChunksUptoRow.holds Tryd.pinned (OpenSpec.upto segChunksSpec)

/-- 'tremalaw04.SegKeeps', WHERE WHAT IT READS IS OF BULK AT MOST 1048576: true; the input reads as it did. -/
def segKeepsUptoRow : OpenClaim := { program := "ythffpkdadffinaadoor", sum := "d9756370cf929d4eccbbb334a65645f37b95a7614deafc48bb05f36002dcd226", func := "trema/tremalaw04.SegKeeps", spec := "segKeeps", unfollowed := true, recurses := true, named := ["trema/ucd.pairs", "trema/ucd.marks", "trema/ucd.classes"], apart := false, laid := [("trema/ucd.classes", laid_trema_ucd_classes), ("trema/ucd.pairs", laid_trema_ucd_pairs), ("trema/ucd.marks", laid_trema_ucd_marks)], narrowed := true }
def SegKeepsUptoSaid : Prop := segKeepsUptoRow.holds Tryd.pinned (OpenSpec.upto segKeepsSpec)

/-- 'tremalaw02.UcdRanges', WHERE WHAT IT READS IS OF BULK AT MOST 1048576: true; the input reads as it did. -/
def ucdRangesUptoRow : OpenClaim := { program := "ythffpkdadffinaadoor", sum := "d9756370cf929d4eccbbb334a65645f37b95a7614deafc48bb05f36002dcd226", func := "trema/tremalaw02.UcdRanges", spec := "ucdRanges", unfollowed := true, recurses := true, named := ["trema/ucd.pairs", "trema/ucd.marks", "trema/ucd.classes"], apart := false, laid := [("trema/ucd.classes", laid_trema_ucd_classes), ("trema/ucd.pairs", laid_trema_ucd_pairs), ("trema/ucd.marks", laid_trema_ucd_marks)], narrowed := true }
def UcdRangesUptoSaid : Prop := ucdRangesUptoRow.holds Tryd.pinned (OpenSpec.upto ucdRangesSpec)

/-- 'tremalaw13.WordsTells', WHERE WHAT IT READS IS OF BULK AT MOST 1048576: true; the input reads as it did. -/
def wordsTellsUptoRow : OpenClaim := { program := "ythffpkdadffinaadoor", sum := "d9756370cf929d4eccbbb334a65645f37b95a7614deafc48bb05f36002dcd226", func := "trema/tremalaw13.WordsTells", spec := "wordsTells", unfollowed := true, recurses := true, named := ["trema/ucd.pairs", "trema/ucd.marks", "trema/ucd.classes"], apart := false, laid := [("trema/ucd.classes", laid_trema_ucd_classes), ("trema/ucd.pairs", laid_trema_ucd_pairs), ("trema/ucd.marks", laid_trema_ucd_marks)], narrowed := true }
def WordsTellsUptoSaid : Prop := wordsTellsUptoRow.holds Tryd.pinned (OpenSpec.upto wordsTellsSpec)

/-- 'tremalaw13.WordsJoins', WHERE WHAT IT READS IS OF BULK AT MOST 1048576: true; the input reads as it did. -/
def wordsJoinsUptoRow : OpenClaim := { program := "ythffpkdadffinaadoor", sum := "d9756370cf929d4eccbbb334a65645f37b95a7614deafc48bb05f36002dcd226", func := "trema/tremalaw13.WordsJoins", spec := "wordsJoins", unfollowed := true, recurses := true, named := ["trema/ucd.pairs", "trema/ucd.marks", "trema/ucd.classes"], apart := false, laid := [("trema/ucd.classes", laid_trema_ucd_classes), ("trema/ucd.pairs", laid_trema_ucd_pairs), ("trema/ucd.marks", laid_trema_ucd_marks)], narrowed := true }
def WordsJoinsUptoSaid : Prop := wordsJoinsUptoRow.holds Tryd.pinned (OpenSpec.upto wordsJoinsSpec)

/-- 'tremalaw13.WordsKeys', WHERE WHAT IT READS IS OF BULK AT MOST 1048576: true; the input reads as it did. -/
def wordsKeysUptoRow : OpenClaim := { program := "ythffpkdadffinaadoor", sum := "d9756370cf929d4eccbbb334a65645f37b95a7614deafc48bb05f36002dcd226", func := "trema/tremalaw13.WordsKeys", spec := "wordsKeys", unfollowed := true, recurses := true, named := ["trema/ucd.pairs", "trema/ucd.marks", "trema/ucd.classes"], apart := false, laid := [("trema/ucd.classes", laid_trema_ucd_classes), ("trema/ucd.pairs", laid_trema_ucd_pairs), ("trema/ucd.marks", laid_trema_ucd_marks)], narrowed := true }
def WordsKeysUptoSaid : Prop := wordsKeysUptoRow.holds Tryd.pinned (OpenSpec.upto wordsKeysSpec)

/-- 'tremalaw13.WordsSame', WHERE WHAT IT READS IS OF BULK AT MOST 1048576: true; the input reads as it did. -/
def wordsSameUptoRow : OpenClaim := { program := "ythffpkdadffinaadoor", sum := "d9756370cf929d4eccbbb334a65645f37b95a7614deafc48bb05f36002dcd226", func := "trema/tremalaw13.WordsSame", spec := "wordsSame", unfollowed := true, recurses := true, named := ["trema/ucd.pairs", "trema/ucd.marks", "trema/ucd.classes"], apart := false, laid := [("trema/ucd.classes", laid_trema_ucd_classes), ("trema/ucd.pairs", laid_trema_ucd_pairs), ("trema/ucd.marks", laid_trema_ucd_marks)], narrowed := true }
def WordsSameUptoSaid : Prop := wordsSameUptoRow.holds Tryd.pinned (OpenSpec.upto wordsSameSpec)

/-- 'tremalaw13.WordsApart', WHERE WHAT IT READS IS OF BULK AT MOST 1048576: true; the input reads as it did. -/
def wordsApartUptoRow : OpenClaim := { program := "ythffpkdadffinaadoor", sum := "d9756370cf929d4eccbbb334a65645f37b95a7614deafc48bb05f36002dcd226", func := "trema/tremalaw13.WordsApart", spec := "wordsApart", unfollowed := true, recurses := true, named := ["trema/ucd.pairs", "trema/ucd.marks", "trema/ucd.classes"], apart := false, laid := [("trema/ucd.classes", laid_trema_ucd_classes), ("trema/ucd.pairs", laid_trema_ucd_pairs), ("trema/ucd.marks", laid_trema_ucd_marks)], narrowed := true }
def WordsApartUptoSaid : Prop := wordsApartUptoRow.holds Tryd.pinned (OpenSpec.upto wordsApartSpec)

/-- 'tremalaw13.WordsCases', WHERE WHAT IT READS IS OF BULK AT MOST 1048576: true; the input reads as it did. -/
def wordsCasesUptoRow : OpenClaim := { program := "ythffpkdadffinaadoor", sum := "d9756370cf929d4eccbbb334a65645f37b95a7614deafc48bb05f36002dcd226", func := "trema/tremalaw13.WordsCases", spec := "wordsCases", unfollowed := true, recurses := true, named := ["trema/ucd.pairs", "trema/ucd.marks", "trema/ucd.classes"], apart := false, laid := [("trema/ucd.classes", laid_trema_ucd_classes), ("trema/ucd.pairs", laid_trema_ucd_pairs), ("trema/ucd.marks", laid_trema_ucd_marks)], narrowed := true }
def WordsCasesUptoSaid : Prop := wordsCasesUptoRow.holds Tryd.pinned (OpenSpec.upto wordsCasesSpec)

/-- 'tremalaw13.WordsBeside', WHERE WHAT IT READS IS OF BULK AT MOST 1048576: true; the input reads as it did. -/
def wordsBesideUptoRow : OpenClaim := { program := "ythffpkdadffinaadoor", sum := "d9756370cf929d4eccbbb334a65645f37b95a7614deafc48bb05f36002dcd226", func := "trema/tremalaw13.WordsBeside", spec := "wordsBeside", unfollowed := true, recurses := true, named := ["trema/ucd.pairs", "trema/ucd.marks", "trema/ucd.classes"], apart := false, laid := [("trema/ucd.classes", laid_trema_ucd_classes), ("trema/ucd.pairs", laid_trema_ucd_pairs), ("trema/ucd.marks", laid_trema_ucd_marks)], narrowed := true }
def WordsBesideUptoSaid : Prop := wordsBesideUptoRow.holds Tryd.pinned (OpenSpec.upto wordsBesideSpec)

end Rows
end Go.Proofs.YthffpkdadffinaaDoor
