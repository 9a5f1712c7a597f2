/-
  What the reference's printed Read comes to.
-/
import Derived.Test.YtpebemljgeammabPw
import Derived.Test.YtpebemljgeammabPPostingKeepsx2
namespace Go.Proofs.Ytpebemljgeammab.Pnr
set_option linter.unusedVariables false
set_option linter.unusedSimpArgs false
open Go.RowKit Go.Proofs.YtpebemljgeammabW.PrintWords Go.Proofs.YtpebemljgeammabW.PrintMore Go.Proofs.Ytpebemljgeammab.Hp Go.Proofs.Ytpebemljgeammab.Fm Go.Proofs.Ytpebemljgeammab.Pn Go.Proofs.Ytpebemljgeammab.Pw Go.Proofs.Ytpebemljgeammab.PPostingKeeps

/-! the reference's -/
theorem unit_step (i : Nat) (hi8 : i ≤ 8) : IntKind.u64.wrap (((2 ^ (7 * i) : Nat) : Int) * 128) = ((2 ^ (7 * (i + 1)) : Nat) : Int) := by
  have h2 := pw_le (show i + 1 ≤ 9 by omega)
  have h3 : 2 ^ (7 * 9) = 9223372036854775808 := by decide
  have w64 : ∀ n : Int, IntKind.u64.wrap n = n % 18446744073709551616 := fun n => by simp [IntKind.wrap, IntKind.bits, IntKind.signed]
  rw [h3, pw_succ] at h2
  rw [w64, pw_succ]
  generalize 2 ^ (7 * i) = X at h2 ⊢
  omega
theorem ref_l0 (b : List Int) (hb : Byt b) (hl : b.length ≤ 140737488355328) (at_ : Nat) (hat : at_ ≤ b.length) : ∀ (m i acc k : Nat), b.length - (at_ + i) = m → i ≤ 9 → acc < 2 ^ (7 * i) → 2 * m < k →
    tremaref14_Read.l0 k b at_ acc ((2 ^ (7 * i) : Nat) : Int) i = some (((rdF i acc (b.drop (at_ + i))).1 : Int), ((rdF i acc (b.drop (at_ + i))).2 : Int)) := by
  have w64 : ∀ n : Int, IntKind.u64.wrap n = n % 18446744073709551616 := fun n => by simp [IntKind.wrap, IntKind.bits, IntKind.signed]
  intro m
  induction m with
  | zero =>
    intro i acc k hm hi ha hk
    obtain ⟨k, rfl⟩ : ∃ k', k = k' + 1 := ⟨k - 1, by omega⟩
    have w1 : wrap64 ((at_ : Int) + (i : Int)) = ((at_ + i : Nat) : Int) := by unfold wrap64; omega
    rw [tremaref14_Read.l0, w1, if_neg (by omega), List.drop_of_length_le (by omega)]
    rfl
  | succ m ih =>
    intro i acc k hm hi ha hk
    obtain ⟨k, rfl⟩ : ∃ k', k = k' + 2 := ⟨k - 2, by omega⟩
    have w1 : wrap64 ((at_ : Int) + (i : Int)) = ((at_ + i : Nat) : Int) := by unfold wrap64; omega
    have hlt : at_ + i < b.length := by omega
    have hc := rd_byt hb hlt
    rw [tremaref14_Read.l0, w1, if_pos (by omega), if_pos (by omega), drop_rd hlt]
    generalize rd b ((at_ + i : Nat) : Int) = c at *
    have wc : IntKind.u64.wrap c = c := by rw [w64]; omega
    rw [wc]
    have hj : (if (i : Int) = 9 then (tremaref14_Read.j1 (k + 1) b at_ acc ((2 ^ (7 * i) : Nat) : Int) i c (decide (c > 1))) else (tremaref14_Read.j1 (k + 1) b at_ acc ((2 ^ (7 * i) : Nat) : Int) i c false)) = tremaref14_Read.j1 (k + 1) b at_ acc ((2 ^ (7 * i) : Nat) : Int) i c (decide (i = 9 ∧ 1 < c ∨ 9 < i)) := by
      split
      · congr 1; rw [decide_eq_decide]; omega
      · congr 1; symm; rw [decide_eq_false_iff_not]; omega
    rw [hj, tremaref14_Read.j1, rdF]
    by_cases hno : i = 9 ∧ 1 < c ∨ 9 < i
    · rw [if_pos (by simpa using hno), if_pos hno]; rfl
    · rw [if_neg (by simpa using hno), if_neg hno]
      have hsm : (c.toNat % 128) * 2 ^ (7 * i) + 2 ^ (7 * i) ≤ 18446744073709551616 := by
        rw [← Nat.succ_mul]
        rcases Nat.lt_or_ge i 9 with h1 | h1
        · have h2 := Nat.mul_le_mul (show (c.toNat % 128).succ ≤ 128 by omega) (pw_le (show i ≤ 8 by omega))
          have h3 : 2 ^ (7 * 8) = 72057594037927936 := by decide
          rw [h3] at h2; omega
        · have e : i = 9 := by omega
          subst e
          have h3 : 2 ^ (7 * 9) = 9223372036854775808 := by decide
          rw [h3]; omega
      have w2 : IntKind.u64.wrap ((acc : Int) + IntKind.u64.wrap (Int.tmod c 128 * ((2 ^ (7 * i) : Nat) : Int))) = ((acc + (c.toNat % 128) * 2 ^ (7 * i) : Nat) : Int) := by
        have e1 : Int.tmod c 128 = ((c.toNat % 128 : Nat) : Int) := by rw [Int.tmod_eq_emod_of_nonneg hc.1]; omega
        rw [e1, ← Int.natCast_mul, w64, w64]
        generalize (c.toNat % 128) * 2 ^ (7 * i) = X at *
        omega
      rw [w2]
      have w3 : wrap64 ((i : Int) + 1) = ((i + 1 : Nat) : Int) := by unfold wrap64; omega
      rw [w3]
      have hal : acc + (c.toNat - 128) * 2 ^ (7 * i) < 2 ^ (7 * (i + 1)) := acc_lt ha (by omega)
      have w4 : i ≤ 8 → IntKind.u64.wrap (((2 ^ (7 * i) : Nat) : Int) * 128) = ((2 ^ (7 * (i + 1)) : Nat) : Int) := unit_step i
      clear ha hsm w2
      generalize 2 ^ (7 * i) = X at hal w4 ⊢
      split
      · rename_i hc1
        have hmod : c.toNat % 128 = c.toNat := Nat.mod_eq_of_lt (by omega)
        rw [hmod]
        split
        · split
          · rw [if_pos (by omega)]; rfl
          · rw [if_neg (by omega)]
        · rw [if_neg (by omega)]
      · rename_i hc1
        have hi8 : i ≤ 8 := by omega
        have hmod : c.toNat % 128 = c.toNat - 128 := by omega
        rw [hmod]
        rw [w4 hi8, show at_ + i + 1 = at_ + (i + 1) by omega]
        exact ih (i + 1) _ k (by omega) (by omega) hal (by omega)
theorem ref_pure (b : List Int) (hb : Byt b) (hl : b.length ≤ 140737488355328) (at_ : Nat) (hat : at_ ≤ b.length) : tremaref14_Read.f (2 * b.length + 1) b at_ = some (((rd1 (b.drop at_)).1 : Int), ((rd1 (b.drop at_)).2 : Int)) := by
  have := ref_l0 b hb hl at_ hat (b.length - at_) 0 0 (2 * b.length + 1) (by omega) (by omega) (by decide) (by omega)
  rw [Nat.add_zero] at this
  exact this
theorem RefReadP (w : World) (A : Option Addr) (n c : Nat) (b : List Int) (hC : KB.C w A n b) (hB : Byt b) (hn : n = b.length) (hc : n ≤ c) (hl : n ≤ 140737488355328) (a : Nat) (ha : a ≤ n) (v k : Nat) (hr : rd1 (b.drop a) = (v, k)) :
    Calls Try.prog 16 #[.slice A n c, .int .i64 a] w fun e w' => e = .returned (.tuple #[.int .u64 v, .int .i64 k]) ∧ Drawn0 w w' := by
  subst hn
  refine (tremaref14_Read.calls (2 * b.length + 1) A c b a v k w hC hc ?_)
  rw [ref_pure b hB hl a ha, hr]

end Go.Proofs.Ytpebemljgeammab.Pnr
