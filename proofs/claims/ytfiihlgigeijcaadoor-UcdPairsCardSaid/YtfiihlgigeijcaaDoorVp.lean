/-
  Plain facts on ucd: fixed, marks, the bottom, folding.
-/
import Derived.Test.YtfiihlgigeijcaaDoorVf
import Derived.Test.YtfiihlgigeijcaaDoorEv
import Derived.Test.YtfiihlgigeijcaaDoorXtremalaw02fixed
namespace Go.Proofs.YtfiihlgigeijcaaDoor.Vp
set_option linter.unusedVariables false
set_option linter.unusedSimpArgs false
open Go.RowKit Go.Proofs.YtfiihlgigeijcaaDoorW.PrintWords Go.Proofs.YtfiihlgigeijcaaDoor.Ev0 Go.Proofs.YtfiihlgigeijcaaDoor.X Go.Proofs.YtfiihlgigeijcaaDoor.Va Go.Proofs.YtfiihlgigeijcaaDoor.Vb Go.Proofs.YtfiihlgigeijcaaDoor.Vc Go.Proofs.YtfiihlgigeijcaaDoor.Vd Go.Proofs.YtfiihlgigeijcaaDoor.Ve Go.Proofs.YtfiihlgigeijcaaDoor.Vf

theorem fix_pure : tremalaw02_fixed.f 20 = some true := by decide +kernel
theorem fixEv : Ev (fun k => tremalaw02_fixed.f k) true := Ev.of tremalaw02_fixed.mono fix_pure
theorem foldEv (r : Int) : Ev (fun k => ucd_Fold.f k r) (foldU r) := Ev.of (ucd_Fold.mono r) (fold_some r)
theorem sameEv (l m : List Int) (hl : l.length ≤ 1000000000) : Ev (fun k => tremaref01_SameRunes.f k l m) (decide (l = m)) := Ev.of (tremaref01_SameRunes.mono l m) (same_pure l m hl)
def I32 (x : Int) : Prop := -2147483648 ≤ x ∧ x ≤ 2147483647
theorem wf32 {x : Int} (h : (Lit.int .i32 x).wf = true) : I32 x := by
  simp [Lit.wf] at h
  have e1 : IntKind.i32.min = -2147483648 := by decide
  have e2 : IntKind.i32.max = 2147483647 := by decide
  unfold I32
  omega

/-! marks -/
theorem clsF_in (r : Int) : ∀ l : List (Int × Int × Int), clsF r l ≠ 0 → ∃ p ∈ l, p.1 ≤ r ∧ r ≤ p.2.1
  | [], h => absurd rfl h
  | p :: t, h => by
    rw [clsF] at h
    by_cases c : p.1 ≤ r ∧ r ≤ p.2.1
    · exact ⟨p, List.mem_cons_self .., c⟩
    · rw [if_neg c] at h
      obtain ⟨q, hq, h2⟩ := clsF_in r t h
      exact ⟨q, List.mem_cons_of_mem _ hq, h2⟩
def spread (l : List (Int × Int × Int)) : List Int := l.flatMap fun p => (List.range ((p.2.1 - p.1).toNat + 1)).map fun k : Nat => p.1 + (k : Int)
theorem cls_spread (r : Int) (h : cls r ≠ 0) : r ∈ spread clsT := by
  obtain ⟨p, hp, h1, h2⟩ := clsF_in r clsT h
  refine List.mem_flatMap.2 ⟨p, hp, List.mem_map.2 ⟨(r - p.1).toNat, List.mem_range.2 (by omega), by omega⟩⟩
theorem marks_all : ∀ r ∈ spread clsT, cls r ≠ 0 → cat r = 2 ∧ trl r = false ∧ 1 ≤ cls r ∧ cls r ≤ 254 ∧ opn r = false := by decide +kernel
theorem marks_law (r : Int) (h : cls r ≠ 0) : cat r = 2 ∧ trl r = false ∧ 1 ≤ cls r ∧ cls r ≤ 254 ∧ opn r = false := marks_all r (cls_spread r h) h
/-! the bottom -/
theorem dec_zero (r : Int) (h : pairU r = (0, 0, 0)) : decU r = [r] := decF_zero 4 r h
theorem opn_zero (r : Int) (h : pairU r = (0, 0, 0)) : opn r = ((cls r == 0) && !trl r) := by unfold opn; rw [dec_zero r h]; rfl
def botB (r : Int) : Bool := decide (1 ≤ (decU r).length ∧ (decU r).length ≤ 3) && (decU r).all (fun x => decide ((pairU x) = (0, 0, 0)) && decide (0 ≤ x ∧ x < 65536)) && ((decU r).drop 1).all (fun x => !opn x)
theorem bot_keys : ∀ r ∈ keys, botB r = true := by decide +kernel
theorem jamo_shut (r : Int) (h : 4449 ≤ r ∧ r ≤ 4469 ∨ 4520 ≤ r ∧ r ≤ 4546) : opn r = false := by
  rw [opn_zero r (jamo_zero r (by omega))]
  have : trl r = true := by unfold trl; exact decide_eq_true h
  rw [this]; simp
theorem syl_dec (s : Nat) (hs : s ≤ 11171) : decU (44032 + (s : Int)) = [4352 + ((s / 588 : Nat) : Int), 4449 + ((s % 588 / 28 : Nat) : Int)] ++ if s % 28 = 0 then [] else [4519 + ((s % 28 : Nat) : Int)] := (syl_all s hs 2).2
structure Bot (r : Int) : Prop where
  lo : 1 ≤ (decU r).length
  hi : (decU r).length ≤ 3
  zero : ∀ x ∈ decU r, pairU x = (0, 0, 0)
  rng : ∀ x ∈ decU r, I32 x
  shut : ∀ x ∈ (decU r).drop 1, opn x = false
theorem bottom (r : Int) (hr : I32 r) : Bot r := by
  rcases cases3 r with h | ⟨s, hs, rfl⟩ | h
  · have := bot_keys r h
    simp only [botB, Bool.and_eq_true, decide_eq_true_eq, List.all_eq_true, Bool.not_eq_true'] at this
    obtain ⟨⟨⟨h1, h2⟩, h3⟩, h4⟩ := this
    exact ⟨h1, h2, fun x hx => (h3 x hx).1, fun x hx => by have := (h3 x hx).2; unfold I32; omega, h4⟩
  · have hd := syl_dec s hs
    have z1 := jamo_zero (4352 + ((s / 588 : Nat) : Int)) (by omega)
    have z2 := jamo_zero (4449 + ((s % 588 / 28 : Nat) : Int)) (by omega)
    have z3 := jamo_zero (4519 + ((s % 28 : Nat) : Int)) (by omega)
    by_cases ht : s % 28 = 0
    · rw [if_pos ht, List.append_nil] at hd
      refine ⟨by rw [hd]; simp, by rw [hd]; simp, ?_, ?_, ?_⟩
      · rw [hd]; intro x hx; simp at hx; rcases hx with rfl | rfl; exact z1; exact z2
      · rw [hd]; intro x hx; simp at hx; unfold I32; rcases hx with rfl | rfl <;> omega
      · rw [hd]; intro x hx; simp at hx; subst hx; exact jamo_shut _ (by omega)
    · rw [if_neg ht] at hd
      refine ⟨by rw [hd]; simp, by rw [hd]; simp, ?_, ?_, ?_⟩
      · rw [hd]; intro x hx; simp at hx; rcases hx with rfl | rfl | rfl; exact z1; exact z2; exact z3
      · rw [hd]; intro x hx; simp at hx; unfold I32; rcases hx with rfl | rfl | rfl <;> omega
      · rw [hd]; intro x hx; simp at hx; rcases hx with rfl | rfl <;> exact jamo_shut _ (by omega)
  · have hd := dec_zero r h
    refine ⟨by rw [hd]; simp, by rw [hd]; simp, ?_, ?_, ?_⟩
    · rw [hd]; intro x hx; simp at hx; subst hx; exact h
    · rw [hd]; intro x hx; simp at hx; subst hx; exact hr
    · rw [hd]; simp
theorem opn_first (r : Int) (hr : I32 r) : opn ((decU r).getD 0 0) = opn r := by
  have hb := bottom r hr
  have hm : (decU r).getD 0 0 ∈ decU r := by
    have := hb.lo
    rw [List.getD_eq_getElem?_getD, List.getElem?_eq_getElem (by omega)]
    exact List.getElem_mem _
  rw [opn_zero _ (hb.zero _ hm)]
  rfl
/-! folded -/
theorem fold_len1 : allB (fun r => decide ((foldU r).length ≤ 2)) 13 0 = true := by decide +kernel
theorem fold_len2 : allB (fun r => decide ((foldU r).length ≤ 2)) 9 8192 = true := by decide +kernel
theorem fold_len (r : Int) : (foldU r).length ≤ 2 := by
  by_cases h : r < 65 ∨ 8492 ≤ r
  · have : foldU r = [r] := by unfold foldU; rw [fold_out r h]; rfl
    rw [this]; simp
  · by_cases h2 : r < 8192
    · exact of_decide_eq_true (allB_at _ 13 0 fold_len1 r (by omega) (by omega))
    · exact of_decide_eq_true (allB_at _ 9 8192 fold_len2 r (by omega) (by omega))
end Go.Proofs.YtfiihlgigeijcaaDoor.Vp
