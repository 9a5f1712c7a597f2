/-
  tremaref01.SameNumbers.
-/
import Derived.Test.YtpebemljgeammaaProg
import Derived.WalkKit
import Derived.WalkSpells
import Derived.WalkLawsBesides
import Derived.BigQuiet
import Derived.Deep.QuietTactic
import Derived.Test.YtpebemljgeammaaHp
namespace Go.Proofs.Ytpebemljgeammaa.Sn
set_option linter.unusedVariables false
set_option linter.unusedSimpArgs false
open Go.RowKit Go.Proofs.YtpebemljgeammaaW.PrintWords Go.Proofs.Ytpebemljgeammaa.Hp

theorem rd_at {w : World} {k : IntKind} {A : Option Addr} {n : Nat} {xs : List Int} (h : ReadsInt w k A n xs) (j : Nat) (hj : j < n) : ∃ ad, A = some ad ∧ w.cell? (ad.add j) = some (.int k (xs.getD j 0)) := by
  obtain ⟨ad, e, hc⟩ := h.2.2 (by omega)
  exact ⟨ad, e, hc j hj⟩

theorem take_eq_succ {xs ys : List Int} {j : Nat} (h1 : j < xs.length) (h2 : j < ys.length) (ht : xs.take j = ys.take j) : (xs.take (j + 1) = ys.take (j + 1)) ↔ xs.getD j 0 = ys.getD j 0 := by
  rw [List.take_succ_eq_append_getElem h1, List.take_succ_eq_append_getElem h2, ht, List.append_cancel_left_eq]
  simp [List.getD_eq_getElem?_getD, h1, h2]

set_option maxHeartbeats 1000000 in
theorem same (w : World) (A B : Option Addr) (n m c d : Nat) (xs ys : List Int) (hx : ReadsInt w .i64 A n xs) (hy : ReadsInt w .i64 B m ys) :
    Calls Try.prog 18 #[.slice A n c, .slice B m d] w fun e w' => e = .returned (.bool (decide (xs = ys))) ∧ Drawn0 w w' := by
  have hm := hx.2.1
  have hm2 := hy.2.1
  have hnl := hx.1
  have hml := hy.1
  by_cases hnm : n = m
  · subst hnm
    have HX := Aside0.mk hx
    have HY := Aside0.mk hy
    have HL := Aside0.mk hnl
    have HL2 := Aside0.mk hml
    clear hx hy hnl hml
    have e1 : ((n : Int) != (n : Int)) = false := by simp
    go_enter Try.func18, Try.ntmps18
    go_wp2
    go_loopw [5] (fun i wr => ∃ k : Nat, k ≤ n ∧ i = .int .i64 k ∧ Aside0 (xs.take k = ys.take k) ∧ Drawn0 w wr) (fun i _ => n - (intOf i).toNat)
    case atStart => exact ⟨0, Nat.zero_le _, rfl, ⟨rfl⟩, Drawn0.refl _⟩
    case round =>
      obtain ⟨k, hk, rfl, HT, ⟨q, rfl⟩⟩ := hrel
      by_cases hlt : k < n
      · have hd : decide (k < n) = true := by simpa using hlt
        obtain ⟨a1, rfl, hc1⟩ := rd_at HX.out k hlt
        obtain ⟨b1, rfl, hc2⟩ := rd_at HY.out k hlt
        obtain ⟨x, hx⟩ : ∃ x, x = xs.getD k 0 := ⟨_, rfl⟩
        obtain ⟨y, hy⟩ : ∃ y, y = ys.getD k 0 := ⟨_, rfl⟩
        rw [← hx] at hc1
        rw [← hy] at hc2
        have hs := take_eq_succ (j := k) (by have := HL.out; omega) (by have := HL2.out; omega) HT.out
        rw [← hx, ← hy] at hs
        by_cases hxy : x = y
        · have HT2 := Aside0.mk (hs.2 hxy)
          have hb : (x != y) = false := by simp [hxy]
          clear hs hx hy hxy
          go_wp2
          go_quiet (fail)
          go_wp2
          go_roundw
          case rel => exact ⟨k + 1, by omega, by go_num, HT2, by repeat (first | exact Drawn0.refl _ | apply Drawn0.step)⟩
          case measure => simp [intOf]; omega
        · have hb : (x != y) = true := by simpa using hxy
          have hne : decide (xs = ys) = false := by
            simp only [decide_eq_false_iff_not]
            rintro rfl
            exact hxy (hx.trans hy.symm)
          have HN := Aside0.mk hne
          clear hs hx hy hxy hne
          go_wp2
          go_quiet (fail)
          go_wp2
          go_ret
          exact ⟨by rw [HN.out]; rfl, by repeat (first | exact Drawn0.refl _ | apply Drawn0.step)⟩
      · have hd : decide (k < n) = false := by simpa using hlt
        have he : decide (xs = ys) = true := by
          have hkn : k = n := by omega
          have := HT.out
          rw [List.take_of_length_le (by have := HL.out; omega), List.take_of_length_le (by have := HL2.out; omega)] at this
          simpa using this
        have HN := Aside0.mk he
        clear he
        go_wp2
        go_ret
        exact ⟨by rw [HN.out]; rfl, by repeat (first | exact Drawn0.refl _ | apply Drawn0.step)⟩
  · have e1 : (n == m) = false := by simpa using hnm
    have hne : decide (xs = ys) = false := by
      simp only [decide_eq_false_iff_not]
      rintro rfl
      omega
    rw [hne]
    clear hx hy hnl hml hne hnm
    go_enter Try.func18, Try.ntmps18
    go_wp2
    go_ret
    exact ⟨rfl, Drawn0.refl _⟩
theorem same_true (w : World) (A B : Option Addr) (n m c d : Nat) (xs ys : List Int) (hx : ReadsInt w .i64 A n xs) (hy : ReadsInt w .i64 B m ys) (he : xs = ys) :
    Calls Try.prog 18 #[.slice A n c, .slice B m d] w fun e w' => e = .returned (.bool true) ∧ Drawn0 w w' := by
  refine (same w A B n m c d xs ys hx hy).mono ?_
  rintro e w' ⟨rfl, h⟩
  exact ⟨by simp [he], h⟩
end Go.Proofs.Ytpebemljgeammaa.Sn
