/-
  No cell of these rows narrows 'for every input' (looked for: loops, veiled, ifaces, maps, wideKeys, modest, calm, conditions, laid).
  DERIVED. THE GIVEN ROWS OF THIS SEAT. 12 by the template 'for every input the law returns true; each argument reads behind the call as it read before'; 0 by the template 'total and deterministic' (their statements: YtpebemljgeammaaTotals.lean).
  GIVEN WITH THE SEED: the statements are not yours to turn. If you find one false, say at which input.
  Laid BY PROGRAM, IN A SANDBOX (cutbox-rows.mjs): the forced cells as the released guide's own fill.sh prints them over the translation 724889fd699d9a93… (all of the seat's roots in one cut). By AI agents, Wed Nov 11 2026. No macro, syntax, notation, axiom, sorry.
-/
import Derived.Test.YtpebemljgeammaaChecked
import GoSem.Claim
import GoSem.ClaimJoined
import GoSem.ClaimMapViews
import Derived.JoinedTies
import Derived.KernelRfl
namespace Go.Proofs.Ytpebemljgeammaa
/- THE CELL 'sum', in the pinned program and in every row, IS THE sha256 OF THE DUMP (.gsa) THAT YtpebemljgeammaaProg.lean LOADS. Nothing in Lean hashes anything: it is a label: what it is worth is what the hold of that sum in a sandbox is worth. -/
noncomputable def Try.pinned : Pinned := { name := "ytpebemljgeammaa", sum := "724889fd699d9a93383d911aaa27bff71893037f99b40a34fb6b0b3134123187", checked := Try.checked }
namespace Rows
def none {H : Type} : Left H := { results := [], args := [] }

/-- 'tremalaw09.SparsePlays': WHATEVER THE INPUT: true; the input reads as it did. -/
def sparsePlaysSpec : ChangeSpec := { name := "sparsePlays", fn := fun _ => fun
  | [d1, d2] => { results := [.lit (.bool true)], args := [d1, d2] }
  | _ => none }
def sparsePlaysRow : OpenClaim := { program := "ytpebemljgeammaa", sum := "724889fd699d9a93383d911aaa27bff71893037f99b40a34fb6b0b3134123187", func := "trema/tremalaw09.SparsePlays", spec := "sparsePlays", apart := false }
def SparsePlaysSaid : Prop := sparsePlaysRow.holds Try.pinned (OpenSpec.ofChange sparsePlaysSpec)

/-- ITS FALSE NEIGHBOUR: 'it returns false'. Refute it at one input. -/
def sparsePlaysWrong : ChangeSpec := { name := "sparsePlays", fn := fun _ => fun
  | [d1, d2] => { results := [.lit (.bool false)], args := [d1, d2] }
  | _ => none }
def SparsePlaysWrongFalsely : Prop := sparsePlaysRow.holds Try.pinned (OpenSpec.ofChange sparsePlaysWrong)

/-- 'tremalaw09.SparseKinds': WHATEVER THE INPUT: true; the input reads as it did. -/
def sparseKindsSpec : ChangeSpec := { name := "sparseKinds", fn := fun _ => fun
  | [d1, d2] => { results := [.lit (.bool true)], args := [d1, d2] }
  | _ => none }
def sparseKindsRow : OpenClaim := { program := "ytpebemljgeammaa", sum := "724889fd699d9a93383d911aaa27bff71893037f99b40a34fb6b0b3134123187", func := "trema/tremalaw09.SparseKinds", spec := "sparseKinds", apart := false }
def SparseKindsSaid : Prop := sparseKindsRow.holds Try.pinned (OpenSpec.ofChange sparseKindsSpec)

/-- ITS FALSE NEIGHBOUR: 'it returns false'. Refute it at one input. -/
def sparseKindsWrong : ChangeSpec := { name := "sparseKinds", fn := fun _ => fun
  | [d1, d2] => { results := [.lit (.bool false)], args := [d1, d2] }
  | _ => none }
def SparseKindsWrongFalsely : Prop := sparseKindsRow.holds Try.pinned (OpenSpec.ofChange sparseKindsWrong)

/-- 'tremalaw09.SparseClears': WHATEVER THE INPUT: true; the input reads as it did. -/
def sparseClearsSpec : ChangeSpec := { name := "sparseClears", fn := fun _ => fun
  | [d1, d2, d3] => { results := [.lit (.bool true)], args := [d1, d2, d3] }
  | _ => none }
def sparseClearsRow : OpenClaim := { program := "ytpebemljgeammaa", sum := "724889fd699d9a93383d911aaa27bff71893037f99b40a34fb6b0b3134123187", func := "trema/tremalaw09.SparseClears", spec := "sparseClears", apart := false }
def SparseClearsSaid : Prop := sparseClearsRow.holds Try.pinned (OpenSpec.ofChange sparseClearsSpec)

/-- ITS FALSE NEIGHBOUR: 'it returns false'. Refute it at one input. -/
def sparseClearsWrong : ChangeSpec := { name := "sparseClears", fn := fun _ => fun
  | [d1, d2, d3] => { results := [.lit (.bool false)], args := [d1, d2, d3] }
  | _ => none }
def SparseClearsWrongFalsely : Prop := sparseClearsRow.holds Try.pinned (OpenSpec.ofChange sparseClearsWrong)

/-- 'tremalaw09.SparseOrders': WHATEVER THE INPUT: true; the input reads as it did. -/
def sparseOrdersSpec : ChangeSpec := { name := "sparseOrders", fn := fun _ => fun
  | [d1, d2] => { results := [.lit (.bool true)], args := [d1, d2] }
  | _ => none }
def sparseOrdersRow : OpenClaim := { program := "ytpebemljgeammaa", sum := "724889fd699d9a93383d911aaa27bff71893037f99b40a34fb6b0b3134123187", func := "trema/tremalaw09.SparseOrders", spec := "sparseOrders", apart := false }
def SparseOrdersSaid : Prop := sparseOrdersRow.holds Try.pinned (OpenSpec.ofChange sparseOrdersSpec)

/-- ITS FALSE NEIGHBOUR: 'it returns false'. Refute it at one input. -/
def sparseOrdersWrong : ChangeSpec := { name := "sparseOrders", fn := fun _ => fun
  | [d1, d2] => { results := [.lit (.bool false)], args := [d1, d2] }
  | _ => none }
def SparseOrdersWrongFalsely : Prop := sparseOrdersRow.holds Try.pinned (OpenSpec.ofChange sparseOrdersWrong)

/-- 'tremalaw01.UtfDecodes': WHATEVER THE INPUT: true; the input reads as it did. -/
def utfDecodesSpec : ChangeSpec := { name := "utfDecodes", fn := fun _ => fun
  | [d] => { results := [.lit (.bool true)], args := [d] }
  | _ => none }
def utfDecodesRow : OpenClaim := { program := "ytpebemljgeammaa", sum := "724889fd699d9a93383d911aaa27bff71893037f99b40a34fb6b0b3134123187", func := "trema/tremalaw01.UtfDecodes", spec := "utfDecodes", apart := false }
def UtfDecodesSaid : Prop := utfDecodesRow.holds Try.pinned (OpenSpec.ofChange utfDecodesSpec)

/-- ITS FALSE NEIGHBOUR: 'it returns false'. Refute it at one input. -/
def utfDecodesWrong : ChangeSpec := { name := "utfDecodes", fn := fun _ => fun
  | [d] => { results := [.lit (.bool false)], args := [d] }
  | _ => none }
def UtfDecodesWrongFalsely : Prop := utfDecodesRow.holds Try.pinned (OpenSpec.ofChange utfDecodesWrong)

/-- 'tremalaw01.UtfEncodes': WHATEVER THE INPUT: true; the input reads as it did. -/
def utfEncodesSpec : ChangeSpec := { name := "utfEncodes", fn := fun _ => fun
  | [d] => { results := [.lit (.bool true)], args := [d] }
  | _ => none }
def utfEncodesRow : OpenClaim := { program := "ytpebemljgeammaa", sum := "724889fd699d9a93383d911aaa27bff71893037f99b40a34fb6b0b3134123187", func := "trema/tremalaw01.UtfEncodes", spec := "utfEncodes", apart := false }
def UtfEncodesSaid : Prop := utfEncodesRow.holds Try.pinned (OpenSpec.ofChange utfEncodesSpec)

/-- ITS FALSE NEIGHBOUR: 'it returns false'. Refute it at one input. -/
def utfEncodesWrong : ChangeSpec := { name := "utfEncodes", fn := fun _ => fun
  | [d] => { results := [.lit (.bool false)], args := [d] }
  | _ => none }
def UtfEncodesWrongFalsely : Prop := utfEncodesRow.holds Try.pinned (OpenSpec.ofChange utfEncodesWrong)

/-- 'tremalaw01.UtfChunks': WHATEVER THE INPUT: true; the input reads as it did. -/
def utfChunksSpec : ChangeSpec := { name := "utfChunks", fn := fun _ => fun
  | [d1, d2] => { results := [.lit (.bool true)], args := [d1, d2] }
  | _ => none }
def utfChunksRow : OpenClaim := { program := "ytpebemljgeammaa", sum := "724889fd699d9a93383d911aaa27bff71893037f99b40a34fb6b0b3134123187", func := "trema/tremalaw01.UtfChunks", spec := "utfChunks", apart := false }
def UtfChunksSaid : Prop := utfChunksRow.holds Try.pinned (OpenSpec.ofChange utfChunksSpec)

/-- ITS FALSE NEIGHBOUR: 'it returns false'. Refute it at one input. -/
def utfChunksWrong : ChangeSpec := { name := "utfChunks", fn := fun _ => fun
  | [d1, d2] => { results := [.lit (.bool false)], args := [d1, d2] }
  | _ => none }
def UtfChunksWrongFalsely : Prop := utfChunksRow.holds Try.pinned (OpenSpec.ofChange utfChunksWrong)

/-- 'tremalaw01.UtfBack': WHATEVER THE INPUT: true; the input reads as it did. -/
def utfBackSpec : ChangeSpec := { name := "utfBack", fn := fun _ => fun
  | [d1, d2] => { results := [.lit (.bool true)], args := [d1, d2] }
  | _ => none }
def utfBackRow : OpenClaim := { program := "ytpebemljgeammaa", sum := "724889fd699d9a93383d911aaa27bff71893037f99b40a34fb6b0b3134123187", func := "trema/tremalaw01.UtfBack", spec := "utfBack", apart := false }
def UtfBackSaid : Prop := utfBackRow.holds Try.pinned (OpenSpec.ofChange utfBackSpec)

/-- ITS FALSE NEIGHBOUR: 'it returns false'. Refute it at one input. -/
def utfBackWrong : ChangeSpec := { name := "utfBack", fn := fun _ => fun
  | [d1, d2] => { results := [.lit (.bool false)], args := [d1, d2] }
  | _ => none }
def UtfBackWrongFalsely : Prop := utfBackRow.holds Try.pinned (OpenSpec.ofChange utfBackWrong)

/-- 'tremalaw01.UtfKeeps': WHATEVER THE INPUT: true; the input reads as it did. -/
def utfKeepsSpec : ChangeSpec := { name := "utfKeeps", fn := fun _ => fun
  | [d1, d2] => { results := [.lit (.bool true)], args := [d1, d2] }
  | _ => none }
def utfKeepsRow : OpenClaim := { program := "ytpebemljgeammaa", sum := "724889fd699d9a93383d911aaa27bff71893037f99b40a34fb6b0b3134123187", func := "trema/tremalaw01.UtfKeeps", spec := "utfKeeps", apart := false }
def UtfKeepsSaid : Prop := utfKeepsRow.holds Try.pinned (OpenSpec.ofChange utfKeepsSpec)

/-- ITS FALSE NEIGHBOUR: 'it returns false'. Refute it at one input. -/
def utfKeepsWrong : ChangeSpec := { name := "utfKeeps", fn := fun _ => fun
  | [d1, d2] => { results := [.lit (.bool false)], args := [d1, d2] }
  | _ => none }
def UtfKeepsWrongFalsely : Prop := utfKeepsRow.holds Try.pinned (OpenSpec.ofChange utfKeepsWrong)

/-- 'tremalaw01.UtfWidths': WHATEVER THE INPUT: true; the input reads as it did. -/
def utfWidthsSpec : ChangeSpec := { name := "utfWidths", fn := fun _ => fun
  | [d] => { results := [.lit (.bool true)], args := [d] }
  | _ => none }
def utfWidthsRow : OpenClaim := { program := "ytpebemljgeammaa", sum := "724889fd699d9a93383d911aaa27bff71893037f99b40a34fb6b0b3134123187", func := "trema/tremalaw01.UtfWidths", spec := "utfWidths", apart := false }
def UtfWidthsSaid : Prop := utfWidthsRow.holds Try.pinned (OpenSpec.ofChange utfWidthsSpec)

/-- ITS FALSE NEIGHBOUR: 'it returns false'. Refute it at one input. -/
def utfWidthsWrong : ChangeSpec := { name := "utfWidths", fn := fun _ => fun
  | [d] => { results := [.lit (.bool false)], args := [d] }
  | _ => none }
def UtfWidthsWrongFalsely : Prop := utfWidthsRow.holds Try.pinned (OpenSpec.ofChange utfWidthsWrong)

/-- 'tremalaw01.UtfResyncs': WHATEVER THE INPUT: true; the input reads as it did. -/
def utfResyncsSpec : ChangeSpec := { name := "utfResyncs", fn := fun _ => fun
  | [d1, d2] => { results := [.lit (.bool true)], args := [d1, d2] }
  | _ => none }
def utfResyncsRow : OpenClaim := { program := "ytpebemljgeammaa", sum := "724889fd699d9a93383d911aaa27bff71893037f99b40a34fb6b0b3134123187", func := "trema/tremalaw01.UtfResyncs", spec := "utfResyncs", apart := false }
def UtfResyncsSaid : Prop := utfResyncsRow.holds Try.pinned (OpenSpec.ofChange utfResyncsSpec)

/-- ITS FALSE NEIGHBOUR: 'it returns false'. Refute it at one input. -/
def utfResyncsWrong : ChangeSpec := { name := "utfResyncs", fn := fun _ => fun
  | [d1, d2] => { results := [.lit (.bool false)], args := [d1, d2] }
  | _ => none }
def UtfResyncsWrongFalsely : Prop := utfResyncsRow.holds Try.pinned (OpenSpec.ofChange utfResyncsWrong)

/-- 'tremalaw14.PostingEncodes': WHATEVER THE INPUT: true; the input reads as it did. -/
def postingEncodesSpec : ChangeSpec := { name := "postingEncodes", fn := fun _ => fun
  | [d] => { results := [.lit (.bool true)], args := [d] }
  | _ => none }
def postingEncodesRow : OpenClaim := { program := "ytpebemljgeammaa", sum := "724889fd699d9a93383d911aaa27bff71893037f99b40a34fb6b0b3134123187", func := "trema/tremalaw14.PostingEncodes", spec := "postingEncodes", unfollowed := true, recurses := true, apart := false }
def PostingEncodesSaid : Prop := postingEncodesRow.holds Try.pinned (OpenSpec.ofChange postingEncodesSpec)

/-- ITS FALSE NEIGHBOUR: 'it returns false'. Refute it at one input. -/
def postingEncodesWrong : ChangeSpec := { name := "postingEncodes", fn := fun _ => fun
  | [d] => { results := [.lit (.bool false)], args := [d] }
  | _ => none }
def PostingEncodesWrongFalsely : Prop := postingEncodesRow.holds Try.pinned (OpenSpec.ofChange postingEncodesWrong)

/- THE SECOND FORM. 'bulk': how many values and letters a reading holds, each counted each time it is reached (what is shared counts as often as it is met; a slice's spare places count too). A statement '..UptoSaid' is the law's where the arguments, and the package variables that the reading takes, are together of bulk at most 1048576: NARROWER than '..Said'. Prove '..Said' where nothing that the law and all that it calls make is longer than what came in: it says more and counts as full. Else prove '..UptoSaid'. A law counts once. -/
mutual
def uptoBulk {H : Type} : DataW H → Nat
  | .lit (.string bytes) => bytes.length + 1
  | .lit _ => 1
  | .nil => 1
  | .ptr d => uptoBulk d + 1
  | .slice elems spare => uptoBulkAll elems + uptoBulkAll spare + 1
  | .agg parts => uptoBulkAll parts + 1
  | .iface _ d => uptoBulk d + 1
  | .map entries => uptoBulkEntries entries + 1
  | .held _ => 1
def uptoBulkAll {H : Type} : List (DataW H) → Nat
  | [] => 0
  | d :: r => uptoBulk d + uptoBulkAll r
def uptoBulkEntries {H : Type} : List (Lit × DataW H) → Nat
  | [] => 0
  | x :: r => uptoBulkEntry x + uptoBulkEntries r
def uptoBulkEntry {H : Type} : Lit × DataW H → Nat
  | (.string bytes, d) => bytes.length + uptoBulk d + 1
  | (_, d) => uptoBulk d + 1
 end
def uptoSmall : (H : Type) → List (DataW H) → Bool := fun _ ds => decide (uptoBulkAll ds ≤ 1048576)
def OpenSpec.upto (s : _root_.Go.ChangeSpec) : _root_.Go.OpenSpec := { _root_.Go.OpenSpec.ofChange s with cond := some uptoSmall }

/-- 'tremalaw09.SparsePlays', WHERE WHAT IT READS IS OF BULK AT MOST 1048576: true; the input reads as it did. -/
def sparsePlaysUptoRow : OpenClaim := { program := "ytpebemljgeammaa", sum := "724889fd699d9a93383d911aaa27bff71893037f99b40a34fb6b0b3134123187", func := "trema/tremalaw09.SparsePlays", spec := "sparsePlays", apart := false, narrowed := true }
def SparsePlaysUptoSaid : Prop := sparsePlaysUptoRow.holds Try.pinned (OpenSpec.upto sparsePlaysSpec)

/-- 'tremalaw09.SparseKinds', WHERE WHAT IT READS IS OF BULK AT MOST 1048576: true; the input reads as it did. -/
def sparseKindsUptoRow : OpenClaim := { program := "ytpebemljgeammaa", sum := "724889fd699d9a93383d911aaa27bff71893037f99b40a34fb6b0b3134123187", func := "trema/tremalaw09.SparseKinds", spec := "sparseKinds", apart := false, narrowed := true }
def SparseKindsUptoSaid : Prop := sparseKindsUptoRow.holds Try.pinned (OpenSpec.upto sparseKindsSpec)

/-- 'tremalaw09.SparseClears', WHERE WHAT IT READS IS OF BULK AT MOST 1048576: true; the input reads as it did. -/
def sparseClearsUptoRow : OpenClaim := { program := "ytpebemljgeammaa", sum := "724889fd699d9a93383d911aaa27bff71893037f99b40a34fb6b0b3134123187", func := "trema/tremalaw09.SparseClears", spec := "sparseClears", apart := false, narrowed := true }
def SparseClearsUptoSaid : Prop := sparseClearsUptoRow.holds Try.pinned (OpenSpec.upto sparseClearsSpec)

/-- 'tremalaw09.SparseOrders', WHERE WHAT IT READS IS OF BULK AT MOST 1048576: true; the input reads as it did. -/
def sparseOrdersUptoRow : OpenClaim := { program := "ytpebemljgeammaa", sum := "724889fd699d9a93383d911aaa27bff71893037f99b40a34fb6b0b3134123187", func := "trema/tremalaw09.SparseOrders", spec := "sparseOrders", apart := false, narrowed := true }
def SparseOrdersUptoSaid : Prop := sparseOrdersUptoRow.holds Try.pinned (OpenSpec.upto sparseOrdersSpec)

/-- 'tremalaw01.UtfDecodes', WHERE WHAT IT READS IS OF BULK AT MOST 1048576: true; the input reads as it did. -/
def utfDecodesUptoRow : OpenClaim := { program := "ytpebemljgeammaa", sum := "724889fd699d9a93383d911aaa27bff71893037f99b40a34fb6b0b3134123187", func := "trema/tremalaw01.UtfDecodes", spec := "utfDecodes", apart := false, narrowed := true }
def UtfDecodesUptoSaid : Prop := utfDecodesUptoRow.holds Try.pinned (OpenSpec.upto utfDecodesSpec)

/-- 'tremalaw01.UtfEncodes', WHERE WHAT IT READS IS OF BULK AT MOST 1048576: true; the input reads as it did. -/
def utfEncodesUptoRow : OpenClaim := { program := "ytpebemljgeammaa", sum := "724889fd699d9a93383d911aaa27bff71893037f99b40a34fb6b0b3134123187", func := "trema/tremalaw01.UtfEncodes", spec := "utfEncodes", apart := false, narrowed := true }
def UtfEncodesUptoSaid : Prop := utfEncodesUptoRow.holds Try.pinned (OpenSpec.upto utfEncodesSpec)

/-- 'tremalaw01.UtfChunks', WHERE WHAT IT READS IS OF BULK AT MOST 1048576: true; the input reads as it did. -/
def utfChunksUptoRow : OpenClaim := { program := "ytpebemljgeammaa", sum := "724889fd699d9a93383d911aaa27bff71893037f99b40a34fb6b0b3134123187", func := "trema/tremalaw01.UtfChunks", spec := "utfChunks", apart := false, narrowed := true }
def UtfChunksUptoSaid : Prop := utfChunksUptoRow.holds Try.pinned (OpenSpec.upto utfChunksSpec)

/-- 'tremalaw01.UtfBack', WHERE WHAT IT READS IS OF BULK AT MOST 1048576: true; the input reads as it did. -/
def utfBackUptoRow : OpenClaim := { program := "ytpebemljgeammaa", sum := "724889fd699d9a93383d911aaa27bff71893037f99b40a34fb6b0b3134123187", func := "trema/tremalaw01.UtfBack", spec := "utfBack", apart := false, narrowed := true }
def UtfBackUptoSaid : Prop := utfBackUptoRow.holds Try.pinned (OpenSpec.upto utfBackSpec)

/-- 'tremalaw01.UtfKeeps', WHERE WHAT IT READS IS OF BULK AT MOST 1048576: true; the input reads as it did. -/
def utfKeepsUptoRow : OpenClaim := { program := "ytpebemljgeammaa", sum := "724889fd699d9a93383d911aaa27bff71893037f99b40a34fb6b0b3134123187", func := "trema/tremalaw01.UtfKeeps", spec := "utfKeeps", apart := false, narrowed := true }
def UtfKeepsUptoSaid : Prop := utfKeepsUptoRow.holds Try.pinned (OpenSpec.upto utfKeepsSpec)

/-- 'tremalaw01.UtfWidths', WHERE WHAT IT READS IS OF BULK AT MOST 1048576: true; the input reads as it did. -/
def utfWidthsUptoRow : OpenClaim := { program := "ytpebemljgeammaa", sum := "724889fd699d9a93383d911aaa27bff71893037f99b40a34fb6b0b3134123187", func := "trema/tremalaw01.UtfWidths", spec := "utfWidths", apart := false, narrowed := true }
def UtfWidthsUptoSaid : Prop := utfWidthsUptoRow.holds Try.pinned (OpenSpec.upto utfWidthsSpec)

/-- 'tremalaw01.UtfResyncs', WHERE WHAT IT READS IS OF BULK AT MOST 1048576: true; the input reads as it did. -/
def utfResyncsUptoRow : OpenClaim := { program := "ytpebemljgeammaa", sum := "724889fd699d9a93383d911aaa27bff71893037f99b40a34fb6b0b3134123187", func := "trema/tremalaw01.UtfResyncs", spec := "utfResyncs", apart := false, narrowed := true }
def UtfResyncsUptoSaid : Prop := utfResyncsUptoRow.holds Try.pinned (OpenSpec.upto utfResyncsSpec)

/-- 'tremalaw14.PostingEncodes', WHERE WHAT IT READS IS OF BULK AT MOST 1048576: true; the input reads as it did. -/
def postingEncodesUptoRow : OpenClaim := { program := "ytpebemljgeammaa", sum := "724889fd699d9a93383d911aaa27bff71893037f99b40a34fb6b0b3134123187", func := "trema/tremalaw14.PostingEncodes", spec := "postingEncodes", unfollowed := true, recurses := true, apart := false, narrowed := true }
def PostingEncodesUptoSaid : Prop := postingEncodesUptoRow.holds Try.pinned (OpenSpec.upto postingEncodesSpec)

end Rows
end Go.Proofs.Ytpebemljgeammaa
