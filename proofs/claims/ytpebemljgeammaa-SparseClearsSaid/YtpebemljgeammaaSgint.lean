/-
  sparse.Set[int]: calls on one of several sets.
-/
import Derived.Test.YtpebemljgeammaaSpint
import Derived.Test.YtpebemljgeammaaFa
import Derived.Test.YtpebemljgeammaaSqint
namespace Go.Proofs.Ytpebemljgeammaa.Spint
set_option linter.unusedVariables false
set_option linter.unusedSimpArgs false
open Go.RowKit Go.Proofs.YtpebemljgeammaaW.PrintWords Go.Proofs.Ytpebemljgeammaa.Hp Go.Proofs.Ytpebemljgeammaa.Sp0 Go.Proofs.Ytpebemljgeammaa.Fa

abbrev sig (g : Nat) (xs : List Int) : Sig := ⟨95, 3, .i64, g, xs⟩

theorem AddF {w0 w : World} {N : Nat} {L : List Sig} {R : Nat → Prop} (h : Fam w0 N L R w) (hR : ∀ b, R b → b < w.heap.size) (i : Nat) {g : Nat} {xs : List Int} (hi : L[i]? = some (sig g xs)) {v : Int} (hv : (Lit.int .i64 v).wf = true) (fin : Bool) (hf : fin = decide (0 ≤ v ∧ v < N ∧ v ∉ xs)) :
    Calls Try.prog 26 #[.pointer (some ⟨g, 0, none⟩), .int .i64 v] w fun e w' => e = .returned (.bool fin) ∧ Aside0 (Fam w0 N (L.set i (sig g (addL N xs v))) R w' ∧ ∀ b, R b → w'.heap[b]? = w.heap[b]?) := by
  obtain ⟨ok, s, u⟩ := h.get hR i _ hi
  refine (Add w _ g ok N xs v hv s).mono ?_
  rintro e w' ⟨rfl, ⟨q1, q2⟩⟩
  exact ⟨by rw [hf], ⟨u w' _ _ (fun b hb => hb) q1 q2⟩⟩
theorem HasF {w0 w : World} {N : Nat} {L : List Sig} {R : Nat → Prop} (h : Fam w0 N L R w) (i : Nat) {g : Nat} {xs : List Int} (hi : L[i]? = some (sig g xs)) {v : Int} (hv : (Lit.int .i64 v).wf = true) (fin : Bool) (hf : fin = decide (v ∈ xs)) :
    Calls Try.prog 30 #[.pointer (some ⟨g, 0, none⟩), .int .i64 v] w fun e w' => e = .returned (.bool fin) ∧ w = w' := by
  obtain ⟨ok, s⟩ := h.one i _ hi
  refine (Has w _ g ok N xs v hv s).mono ?_
  rintro e w' ⟨rfl, rfl⟩
  exact ⟨by rw [hf], rfl⟩
theorem ValF {w0 w : World} {N : Nat} {L : List Sig} {R : Nat → Prop} (h : Fam w0 N L R w) (i : Nat) {g : Nat} {xs : List Int} (hi : L[i]? = some (sig g xs)) :
    Calls Try.prog 34 #[.pointer (some ⟨g, 0, none⟩)] w fun e w' => Aside0 (∃ A c, e = .returned (.slice A xs.length c) ∧ w'.ownsRow w.heap.size 3 1 (.slice A xs.length c) xs.length (nums .i64 xs) ∧ Fam w0 N L R w' ∧ Below w.heap.size w w') := by
  obtain ⟨ok, s⟩ := h.one i _ hi
  refine (Values w _ g ok N xs s).mono ?_
  rintro e w' ⟨v, rfl, q1, q2⟩
  obtain ⟨A, c, rfl⟩ := own_slice q1
  exact ⟨A, c, rfl, q1, h.later q2, q2⟩
end Go.Proofs.Ytpebemljgeammaa.Spint
