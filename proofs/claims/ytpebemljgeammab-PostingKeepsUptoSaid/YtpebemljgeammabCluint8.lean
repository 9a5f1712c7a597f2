/-
  slices.Clone[[]uint8,uint8]: a new row with the same numbers.
-/
import Derived.Test.YtpebemljgeammabProg
import Derived.WalkKit
import Derived.WalkSpells
import Derived.WalkLawsBesides
import Derived.BigQuiet
import Derived.Deep.QuietTactic
import Derived.Test.YtpebemljgeammabHp
namespace Go.Proofs.Ytpebemljgeammab.Cluint8
set_option linter.unusedVariables false
set_option linter.unusedSimpArgs false
open Go.RowKit Go.Proofs.YtpebemljgeammabW.PrintWords Go.Proofs.Ytpebemljgeammab.Hp

theorem info_e : (Try.prog.info? 5).map (fun i => (i.zero, i.size, i.bytes)) = some (some (.int .u8 0), 1, 1) := by kernel_rfl

set_option maxHeartbeats 1000000 in
theorem clone (w : World) (A : Option Addr) (n c : Nat) (xs : List Int) (HR : ReadsInt w .u8 A n xs) (hl : n * 1 ≤ 140737488355328) :
    Calls Try.prog 24 #[.slice A n c] w fun e w' => Aside0 (∃ v, e = .returned v ∧ w'.ownsRow w.heap.size 5 1 v xs.length (nums .u8 xs) ∧ Below w.heap.size w w') := by
  have hn := fun w : World => Lib.run_eql_slice_nil (P := Try.prog) w 22 5 A n c 0 0 Try.underlying22
  cases A with
  | none =>
    have h0 : xs = [] := by
      have h1 := HR.1
      rcases Nat.eq_zero_or_pos n with h2 | h2
      · exact List.eq_nil_of_length_eq_zero (by omega)
      · obtain ⟨ad, h, _⟩ := HR.2.2 h2; cases h
    subst h0
    clear HR hl
    go_enter Try.func24, Try.ntmps24
    go_wp2
    go_ret
    exact ⟨_, rfl, own_nil _ _ _ _, Below.refl _ _⟩
  | some ad =>
    have hm := HR.2.1
    have hlen := HR.1
    have H := Aside0.mk HR
    clear HR
    go_enter Try.func24, Try.ntmps24
    have HL := Aside0.mk hlen
    clear hlen
    go_wp2_with (at_builtin; go_must (refine print_append_row (w0 := w) w.heap.size rfl (.tmp 5) (.tmp 6) 22 5 .u8 1 rfl Try.underlying22 info_e (by decide) (.slice (some ⟨w.heap.size, 0, none⟩) 0 0) [] xs (some ad) n c rfl rfl ?ho (H.out.below (below_alloc (Below.refl _ _) _)) (below_alloc (Below.refl _ _) _) ?hb ?hl ?hh))
    case ho => exact ⟨rfl, .inr ⟨w.heap.size, 0, #[], rfl, Nat.le_refl _, heap_alloc_new w _, Nat.le_refl _, by simp [maxLen], rfl, rfl⟩⟩
    case hb => simp
    case hl => simp; omega
    case hh =>
      intro v1 w1 hown hb hg hat
      obtain ⟨A1, c1, rfl⟩ := own_slice hown
      have HP := Aside0.mk hown
      clear hat hown
      go_wp2
      go_ret
      exact ⟨_, rfl, by simpa using HP.out, hb⟩
end Go.Proofs.Ytpebemljgeammab.Cluint8
