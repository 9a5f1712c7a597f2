/-
  No cell of these rows narrows 'for every input' (looked for: loops, veiled, ifaces, maps, wideKeys, modest, calm, conditions, laid).
  DERIVED. THE GIVEN ROWS OF THIS SEAT. 5 by the template 'for every input the law returns true; each argument reads behind the call as it read before'; 0 by the template 'total and deterministic' (their statements: YtpebemljgeammabTotals.lean).
  GIVEN WITH THE SEED: the statements are not yours to turn. If you find one false, say at which input.
  Laid BY PROGRAM, IN A SANDBOX (cutbox-rows.mjs): the forced cells as the released guide's own fill.sh prints them over the translation d33f6f1ccd7616f6… (all of the seat's roots in one cut). By AI agents, Wed Nov 11 2026. No macro, syntax, notation, axiom, sorry.
-/
import Derived.Test.YtpebemljgeammabChecked
import GoSem.Claim
import GoSem.ClaimJoined
import GoSem.ClaimMapViews
import Derived.JoinedTies
import Derived.KernelRfl
namespace Go.Proofs.Ytpebemljgeammab
/- THE CELL 'sum', in the pinned program and in every row, IS THE sha256 OF THE DUMP (.gsa) THAT YtpebemljgeammabProg.lean LOADS. Nothing in Lean hashes anything: it is a label: what it is worth is what the hold of that sum in a sandbox is worth. -/
noncomputable def Try.pinned : Pinned := { name := "ytpebemljgeammab", sum := "d33f6f1ccd7616f685de48301da0ec9e1aa68f00168179b6132b2e3d0623a232", checked := Try.checked }
namespace Rows
def none {H : Type} : Left H := { results := [], args := [] }

/-- 'tremalaw14.PostingDecodes': WHATEVER THE INPUT: true; the input reads as it did. -/
def postingDecodesSpec : ChangeSpec := { name := "postingDecodes", fn := fun _ => fun
  | [d] => { results := [.lit (.bool true)], args := [d] }
  | _ => none }
def postingDecodesRow : OpenClaim := { program := "ytpebemljgeammab", sum := "d33f6f1ccd7616f685de48301da0ec9e1aa68f00168179b6132b2e3d0623a232", func := "trema/tremalaw14.PostingDecodes", spec := "postingDecodes", unfollowed := true, recurses := true, apart := false }
def PostingDecodesSaid : Prop := postingDecodesRow.holds Try.pinned (OpenSpec.ofChange postingDecodesSpec)

/-- ITS FALSE NEIGHBOUR: 'it returns false'. Refute it at one input. -/
def postingDecodesWrong : ChangeSpec := { name := "postingDecodes", fn := fun _ => fun
  | [d] => { results := [.lit (.bool false)], args := [d] }
  | _ => none }
def PostingDecodesWrongFalsely : Prop := postingDecodesRow.holds Try.pinned (OpenSpec.ofChange postingDecodesWrong)

/-- 'tremalaw14.PostingNumbers': WHATEVER THE INPUT: true; the input reads as it did. -/
def postingNumbersSpec : ChangeSpec := { name := "postingNumbers", fn := fun _ => fun
  | [d1, d2] => { results := [.lit (.bool true)], args := [d1, d2] }
  | _ => none }
def postingNumbersRow : OpenClaim := { program := "ytpebemljgeammab", sum := "d33f6f1ccd7616f685de48301da0ec9e1aa68f00168179b6132b2e3d0623a232", func := "trema/tremalaw14.PostingNumbers", spec := "postingNumbers", unfollowed := true, recurses := true, apart := false }
def PostingNumbersSaid : Prop := postingNumbersRow.holds Try.pinned (OpenSpec.ofChange postingNumbersSpec)

/-- ITS FALSE NEIGHBOUR: 'it returns false'. Refute it at one input. -/
def postingNumbersWrong : ChangeSpec := { name := "postingNumbers", fn := fun _ => fun
  | [d1, d2] => { results := [.lit (.bool false)], args := [d1, d2] }
  | _ => none }
def PostingNumbersWrongFalsely : Prop := postingNumbersRow.holds Try.pinned (OpenSpec.ofChange postingNumbersWrong)

/-- 'tremalaw14.PostingKeeps': WHATEVER THE INPUT: true; the input reads as it did. -/
def postingKeepsSpec : ChangeSpec := { name := "postingKeeps", fn := fun _ => fun
  | [d1, d2] => { results := [.lit (.bool true)], args := [d1, d2] }
  | _ => none }
def postingKeepsRow : OpenClaim := { program := "ytpebemljgeammab", sum := "d33f6f1ccd7616f685de48301da0ec9e1aa68f00168179b6132b2e3d0623a232", func := "trema/tremalaw14.PostingKeeps", spec := "postingKeeps", unfollowed := true, recurses := true, apart := false }
def PostingKeepsSaid : Prop := postingKeepsRow.holds Try.pinned (OpenSpec.ofChange postingKeepsSpec)

/-- ITS FALSE NEIGHBOUR: 'it returns false'. Refute it at one input. -/
def postingKeepsWrong : ChangeSpec := { name := "postingKeeps", fn := fun _ => fun
  | [d1, d2] => { results := [.lit (.bool false)], args := [d1, d2] }
  | _ => none }
def PostingKeepsWrongFalsely : Prop := postingKeepsRow.holds Try.pinned (OpenSpec.ofChange postingKeepsWrong)

/-- 'tremalaw14.PostingUnlike': WHATEVER THE INPUT: true; the input reads as it did. -/
def postingUnlikeSpec : ChangeSpec := { name := "postingUnlike", fn := fun _ => fun
  | [d1, d2] => { results := [.lit (.bool true)], args := [d1, d2] }
  | _ => none }
def postingUnlikeRow : OpenClaim := { program := "ytpebemljgeammab", sum := "d33f6f1ccd7616f685de48301da0ec9e1aa68f00168179b6132b2e3d0623a232", func := "trema/tremalaw14.PostingUnlike", spec := "postingUnlike", unfollowed := true, recurses := true, apart := false }
def PostingUnlikeSaid : Prop := postingUnlikeRow.holds Try.pinned (OpenSpec.ofChange postingUnlikeSpec)

/-- ITS FALSE NEIGHBOUR: 'it returns false'. Refute it at one input. -/
def postingUnlikeWrong : ChangeSpec := { name := "postingUnlike", fn := fun _ => fun
  | [d1, d2] => { results := [.lit (.bool false)], args := [d1, d2] }
  | _ => none }
def PostingUnlikeWrongFalsely : Prop := postingUnlikeRow.holds Try.pinned (OpenSpec.ofChange postingUnlikeWrong)

/-- 'tremalaw14.PostingWidths': WHATEVER THE INPUT: true; the input reads as it did. -/
def postingWidthsSpec : ChangeSpec := { name := "postingWidths", fn := fun _ => fun
  | [d] => { results := [.lit (.bool true)], args := [d] }
  | _ => none }
def postingWidthsRow : OpenClaim := { program := "ytpebemljgeammab", sum := "d33f6f1ccd7616f685de48301da0ec9e1aa68f00168179b6132b2e3d0623a232", func := "trema/tremalaw14.PostingWidths", spec := "postingWidths", unfollowed := true, recurses := true, apart := false }
def PostingWidthsSaid : Prop := postingWidthsRow.holds Try.pinned (OpenSpec.ofChange postingWidthsSpec)

/-- ITS FALSE NEIGHBOUR: 'it returns false'. Refute it at one input. -/
def postingWidthsWrong : ChangeSpec := { name := "postingWidths", fn := fun _ => fun
  | [d] => { results := [.lit (.bool false)], args := [d] }
  | _ => none }
def PostingWidthsWrongFalsely : Prop := postingWidthsRow.holds Try.pinned (OpenSpec.ofChange postingWidthsWrong)

/- THE SECOND FORM. 'bulk': how many values and letters a reading holds, each counted each time it is reached (what is shared counts as often as it is met; a slice's spare places count too). A statement '..UptoSaid' is the law's where the arguments, and the package variables that the reading takes, are together of bulk at most 1048576: NARROWER than '..Said'. Prove '..Said' where nothing that the law and all that it calls make is longer than what came in: it says more and counts as full. Else prove '..UptoSaid'. A law counts once. -/
mutual
def uptoBulk {H : Type} : DataW H → Nat
  | .lit (.string bytes) => bytes.length + 1
  | .lit _ => 1
  | .nil => 1
  | .ptr d => uptoBulk d + 1
  | .slice elems spare => uptoBulkAll elems + uptoBulkAll spare + 1
  | .agg parts => uptoBulkAll parts + 1
  | .iface _ d => uptoBulk d + 1
  | .map entries => uptoBulkEntries entries + 1
  | .held _ => 1
def uptoBulkAll {H : Type} : List (DataW H) → Nat
  | [] => 0
  | d :: r => uptoBulk d + uptoBulkAll r
def uptoBulkEntries {H : Type} : List (Lit × DataW H) → Nat
  | [] => 0
  | x :: r => uptoBulkEntry x + uptoBulkEntries r
def uptoBulkEntry {H : Type} : Lit × DataW H → Nat
  | (.string bytes, d) => bytes.length + uptoBulk d + 1
  | (_, d) => uptoBulk d + 1
 end
def uptoSmall : (H : Type) → List (DataW H) → Bool := fun _ ds => decide (uptoBulkAll ds ≤ 1048576)
def OpenSpec.upto (s : _root_.Go.ChangeSpec) : _root_.Go.OpenSpec := { _root_.Go.OpenSpec.ofChange s with cond := some uptoSmall }

/-- 'tremalaw14.PostingDecodes', WHERE WHAT IT READS IS OF BULK AT MOST 1048576: true; the input reads as it did. -/
def postingDecodesUptoRow : OpenClaim := { program := "ytpebemljgeammab", sum := "d33f6f1ccd7616f685de48301da0ec9e1aa68f00168179b6132b2e3d0623a232", func := "trema/tremalaw14.PostingDecodes", spec := "postingDecodes", unfollowed := true, recurses := true, apart := false, narrowed := true }
def PostingDecodesUptoSaid : Prop := postingDecodesUptoRow.holds Try.pinned (OpenSpec.upto postingDecodesSpec)

/-- 'tremalaw14.PostingNumbers', WHERE WHAT IT READS IS OF BULK AT MOST 1048576: true; the input reads as it did. -/
def postingNumbersUptoRow : OpenClaim := { program := "ytpebemljgeammab", sum := "d33f6f1ccd7616f685de48301da0ec9e1aa68f00168179b6132b2e3d0623a232", func := "trema/tremalaw14.PostingNumbers", spec := "postingNumbers", unfollowed := true, recurses := true, apart := false, narrowed := true }
def PostingNumbersUptoSaid : Prop := postingNumbersUptoRow.holds Try.pinned (OpenSpec.upto postingNumbersSpec)

/-- 'tremalaw14.PostingKeeps', WHERE WHAT IT READS IS OF BULK AT MOST 1048576: true; the input reads as it did. -/
def postingKeepsUptoRow : OpenClaim := { program := "ytpebemljgeammab", sum := "d33f6f1ccd7616f685de48301da0ec9e1aa68f00168179b6132b2e3d0623a232", func := "trema/tremalaw14.PostingKeeps", spec := "postingKeeps", unfollowed := true, recurses := true, apart := false, narrowed := true }
def PostingKeepsUptoSaid : Prop := postingKeepsUptoRow.holds Try.pinned (OpenSpec.upto postingKeepsSpec)

/-- 'tremalaw14.PostingUnlike', WHERE WHAT IT READS IS OF BULK AT MOST 1048576: true; the input reads as it did. -/
def postingUnlikeUptoRow : OpenClaim := { program := "ytpebemljgeammab", sum := "d33f6f1ccd7616f685de48301da0ec9e1aa68f00168179b6132b2e3d0623a232", func := "trema/tremalaw14.PostingUnlike", spec := "postingUnlike", unfollowed := true, recurses := true, apart := false, narrowed := true }
def PostingUnlikeUptoSaid : Prop := postingUnlikeUptoRow.holds Try.pinned (OpenSpec.upto postingUnlikeSpec)

/-- 'tremalaw14.PostingWidths', WHERE WHAT IT READS IS OF BULK AT MOST 1048576: true; the input reads as it did. -/
def postingWidthsUptoRow : OpenClaim := { program := "ytpebemljgeammab", sum := "d33f6f1ccd7616f685de48301da0ec9e1aa68f00168179b6132b2e3d0623a232", func := "trema/tremalaw14.PostingWidths", spec := "postingWidths", unfollowed := true, recurses := true, apart := false, narrowed := true }
def PostingWidthsUptoSaid : Prop := postingWidthsUptoRow.holds Try.pinned (OpenSpec.upto postingWidthsSpec)

end Rows
end Go.Proofs.Ytpebemljgeammab
