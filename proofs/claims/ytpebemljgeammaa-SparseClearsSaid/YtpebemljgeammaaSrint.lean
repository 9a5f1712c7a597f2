/-
  sparse.Set[int]: Len, At.
-/
import Derived.Test.YtpebemljgeammaaSpint
namespace Go.Proofs.Ytpebemljgeammaa.Spint
set_option linter.unusedVariables false
set_option linter.unusedSimpArgs false
open Go.RowKit Go.Proofs.YtpebemljgeammaaW.PrintWords Go.Proofs.Ytpebemljgeammaa.Hp Go.Proofs.Ytpebemljgeammaa.Sp0

set_option maxHeartbeats 1000000 in
theorem Len (w : World) (base g : Nat) (ok : Nat → Prop) (N : Nat) (xs : List Int) (h : IsSet 95 3 .i64 N xs g base ok w) :
    Calls Try.prog 38 #[.pointer (some ⟨g, 0, none⟩)] w fun e w' => e = .returned (.int .i64 xs.length) ∧ w = w' := by
  obtain ⟨gw, ov, ws, h, _⟩ := h
  have c1 : w.cell? ⟨g, 1, none⟩ = some ov := by simp [World.cell?, h.hg]
  obtain ⟨A, c, rfl, hm, hA⟩ := h.slice
  clear h hA
  go_enter Try.func38, Try.ntmps38
  go_wp2
  go_ret
  exact ⟨rfl, rfl⟩

set_option maxHeartbeats 1000000 in
theorem At (w : World) (base g : Nat) (ok : Nat → Prop) (N : Nat) (xs : List Int) (i : Int) (hi : (Lit.int .i64 i).wf = true) (h : IsSet 95 3 .i64 N xs g base ok w) :
    Calls Try.prog 39 #[.pointer (some ⟨g, 0, none⟩), .int .i64 i] w fun e w' => e = .returned (.tuple #[.int .i64 (if 0 ≤ i ∧ i < xs.length then xs.getD i.toNat 0 else 0), .bool (decide (0 ≤ i ∧ i < xs.length))]) ∧ w = w' := by
  have hvb : -9223372036854775808 ≤ i ∧ i ≤ 9223372036854775807 := by simpa [Lit.wf, IntKind.min, IntKind.max, IntKind.signed, IntKind.bits] using hi
  obtain ⟨gw, ov, ws, h, _⟩ := h
  have c1 : w.cell? ⟨g, 1, none⟩ = some ov := by simp [World.cell?, h.hg]
  obtain ⟨A, c, rfl, hm, hA⟩ := h.slice
  obtain ⟨hv1, hv2⟩ := hvb
  by_cases hr : 0 ≤ i ∧ i < xs.length
  · rw [if_pos hr, decide_eq_true hr]
    obtain ⟨h0, h1⟩ := hr
    obtain ⟨ad, rfl, c3⟩ := hA i.toNat (by omega)
    obtain ⟨y, hy⟩ : ∃ y, y = xs.getD i.toNat 0 := ⟨_, rfl⟩
    rw [← hy] at c3 ⊢
    clear hy h hA
    go_enter Try.func39, Try.ntmps39
    go_wp2
    go_ret2
    exact ⟨rfl, rfl⟩
  · rw [if_neg hr, decide_eq_false hr]
    clear h hA
    go_enter Try.func39, Try.ntmps39
    go_wp2
    all_goals go_ret2
    all_goals exact ⟨rfl, rfl⟩
end Go.Proofs.Ytpebemljgeammaa.Spint
