/-
  Loops in rounds, plainly: what holds from some number of rounds on.
-/
import Derived.Test.YtfiihlgigeijcaaDoorWWords
namespace Go.Proofs.YtfiihlgigeijcaaDoor.Ev0
set_option linter.unusedVariables false
set_option linter.unusedSimpArgs false
open Go.RowKit Go.Proofs.YtfiihlgigeijcaaDoorW.PrintWords

theorem w64 {i : Nat} (h : i < 4611686018427387904) : wrap64 ((i : Int) + 1) = ((i + 1 : Nat) : Int) := by unfold wrap64; omega
theorem w64' {i : Int} (h0 : 0 ≤ i) (h : i < 4611686018427387904) : wrap64 (i + 1) = i + 1 := by unfold wrap64; omega
theorem rd_nat {l : List Int} {i : Nat} (h : i < l.length) : rd l (i : Int) = l[i] := by simp [rd, List.getD_eq_getElem?_getD, List.getElem?_eq_getElem h]
/-- A count from i up to n. -/
theorem ev_range {α : Type} {F : Nat → Int → Option α} {n : Nat} {r : α} (hend : Ev (fun k => F k (n : Int)) r) (hstep : ∀ i : Nat, i < n → Ev (fun k => F k ((i + 1 : Nat) : Int)) r → Ev (fun k => F k (i : Int)) r) : ∀ i : Nat, i ≤ n → Ev (fun k => F k (i : Int)) r := by
  have key : ∀ d i : Nat, i + d = n → Ev (fun k => F k (i : Int)) r := by
    intro d
    induction d with
    | zero => intro i h; obtain rfl : i = n := by omega
              exact hend
    | succ d ih => intro i h; exact hstep i (by omega) (ih (i + 1) (by omega))
  intro i h
  exact key (n - i) i (by omega)
theorem ev_cast {α : Type} {F : Nat → Int → Option α} {r : α} (h : Ev (fun k => F k ((0 : Nat) : Int)) r) : Ev (fun k => F k 0) r := h
/-- A loop over a list: 'range', from the first element on. -/
theorem ev_list {α : Type} {F : Nat → Int → Option α} {l : List Int} {r : α} (hend : Ev (fun k => F k (l.length : Int)) r) (hstep : ∀ (i : Nat) (x : Int), i < l.length → x ∈ l → rd l (i : Int) = x → Ev (fun k => F k ((i + 1 : Nat) : Int)) r → Ev (fun k => F k (i : Int)) r) : Ev (fun k => F k 0) r :=
  ev_range (n := l.length) hend (fun i hi h => hstep i l[i] hi (List.getElem_mem hi) (rd_nat hi) h) 0 (Nat.zero_le _)
end Go.Proofs.YtfiihlgigeijcaaDoor.Ev0
