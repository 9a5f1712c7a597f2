/-
  The plain law UcdFolds.
-/
import Derived.Test.YtfiihlgigeijcaaDoorVp
import Derived.Test.YtfiihlgigeijcaaDoorVn
import Derived.Test.YtfiihlgigeijcaaDoorXtremaref02Fold
import Derived.Test.YtfiihlgigeijcaaDoorXtremalaw02UcdFolds
namespace Go.Proofs.YtfiihlgigeijcaaDoor.Vt
set_option linter.unusedVariables false
set_option linter.unusedSimpArgs false
open Go.RowKit Go.Proofs.YtfiihlgigeijcaaDoorW.PrintWords Go.Proofs.YtfiihlgigeijcaaDoor.Ev0 Go.Proofs.YtfiihlgigeijcaaDoor.X Go.Proofs.YtfiihlgigeijcaaDoor.Va Go.Proofs.YtfiihlgigeijcaaDoor.Vb Go.Proofs.YtfiihlgigeijcaaDoor.Vc Go.Proofs.YtfiihlgigeijcaaDoor.Vd Go.Proofs.YtfiihlgigeijcaaDoor.Ve Go.Proofs.YtfiihlgigeijcaaDoor.Vf Go.Proofs.YtfiihlgigeijcaaDoor.Vp

theorem ref_in1 : allB (fun r => tremaref02_Fold.f 20 r == some (foldU r)) 13 0 = true := by decide +kernel
theorem ref_in2 : allB (fun r => tremaref02_Fold.f 20 r == some (foldU r)) 9 8192 = true := by decide +kernel
theorem in_out (r lo hi : Int) (h : r < 65 ∨ 8492 ≤ r) (h1 : 65 ≤ lo) (h2 : hi ≤ 8491) : tremaref02_in.f r lo hi = some false := by
  unfold tremaref02_in.f
  by_cases c : lo ≤ r
  · rw [if_pos c]; congr 1; exact decide_eq_false (by omega)
  · rw [if_neg c]
theorem l0_out (r : Int) (h : r < 65 ∨ 8492 ≤ r) : tremaref02_Fold.l0 20 r ([181, 376, 383, 837, 902, 962, 8486, 8490, 8491] : List Int) ([956, 255, 115, 953, 940, 963, 969, 107, 229] : List Int) 0 = some [r] := by
  have e : ∀ k : Int, 65 ≤ k → k ≤ 8491 → (r = k) = False := fun k h1 h2 => by simp; omega
  simp [tremaref02_Fold.l0, rd, wrap64, e]
theorem ref_out (r : Int) (h : r < 65 ∨ 8492 ≤ r) : tremaref02_Fold.f 20 r = some [r] := by
  have e : ∀ k : Int, 65 ≤ k → k ≤ 8491 → ¬ r = k := fun k h1 h2 => by omega
  unfold tremaref02_Fold.f
  simp only [in_out r _ _ h (show (65 : Int) ≤ 65 by decide) (show (90 : Int) ≤ 8491 by decide), in_out r _ _ h (show (65 : Int) ≤ 192 by decide) (show (214 : Int) ≤ 8491 by decide), in_out r _ _ h (show (65 : Int) ≤ 216 by decide) (show (222 : Int) ≤ 8491 by decide), in_out r _ _ h (show (65 : Int) ≤ 913 by decide) (show (929 : Int) ≤ 8491 by decide), in_out r _ _ h (show (65 : Int) ≤ 931 by decide) (show (937 : Int) ≤ 8491 by decide),
    in_out r _ _ h (show (65 : Int) ≤ 1040 by decide) (show (1071 : Int) ≤ 8491 by decide), in_out r _ _ h (show (65 : Int) ≤ 1024 by decide) (show (1039 : Int) ≤ 8491 by decide), in_out r _ _ h (show (65 : Int) ≤ 256 by decide) (show (302 : Int) ≤ 8491 by decide), in_out r _ _ h (show (65 : Int) ≤ 306 by decide) (show (310 : Int) ≤ 8491 by decide), in_out r _ _ h (show (65 : Int) ≤ 330 by decide) (show (374 : Int) ≤ 8491 by decide),
    in_out r _ _ h (show (65 : Int) ≤ 7680 by decide) (show (7828 : Int) ≤ 8491 by decide), in_out r _ _ h (show (65 : Int) ≤ 313 by decide) (show (327 : Int) ≤ 8491 by decide), in_out r _ _ h (show (65 : Int) ≤ 377 by decide) (show (381 : Int) ≤ 8491 by decide), Option.bind_some, if_neg Bool.false_ne_true, if_neg (e 223 (by decide) (by decide)), if_neg (e 7838 (by decide) (by decide)), if_neg (e 304 (by decide) (by decide)), l0_out r h, ite_self]
theorem reffold (r : Int) : tremaref02_Fold.f 20 r = some (foldU r) := by
  by_cases h : r < 65 ∨ 8492 ≤ r
  · have : foldU r = [r] := by unfold foldU; rw [fold_out r h]; rfl
    rw [ref_out r h, this]
  · by_cases h2 : r < 8192
    · exact beq_iff_eq.1 (allB_at _ 13 0 ref_in1 r (by omega) (by omega))
    · exact beq_iff_eq.1 (allB_at _ 9 8192 ref_in2 r (by omega) (by omega))
theorem reffoldEv (r : Int) : Ev (fun k => tremaref02_Fold.f k r) (foldU r) := Ev.of (tremaref02_Fold.mono r) (reffold r)
theorem UcdFolds (l : List Int) (hwf : ∀ x ∈ l, (Lit.int .i32 x).wf = true) (hl : l.length * 4 ≤ 140737488351232) (s : List ByteArray) (hs : ∀ x ∈ s, x.size ≤ maxLen) (hsl : s.length * 16 ≤ 140737488351232) : ∃ k, tremalaw02_UcdFolds.f k l s = some true := by
  apply Ev.rounds (g := fun k => tremalaw02_UcdFolds.f k l s)
  unfold tremalaw02_UcdFolds.f
  refine Ev.bind fixEv ?_
  simp only [if_true]
  refine ev_list (l := l) (F := fun k i => tremalaw02_UcdFolds.l0 k s l (l.length : Int) i) ?_ ?_
  · refine Ev.step (fun k => tremalaw02_UcdFolds.l0.eq_2 ..) ?_
    simp only [if_neg (Int.lt_irrefl _)]
    refine ev_range (n := s.length) (F := fun k i => tremalaw02_UcdFolds.l1 k s (s.length : Int) i) ?_ ?_ 0 (Nat.zero_le _)
    · refine Ev.step (fun k => tremalaw02_UcdFolds.l1.eq_2 ..) ?_
      simp only [if_neg (Int.lt_irrefl _)]
      exact Ev.now _
    · intro i hi ih
      have c1 : (i : Int) < (s.length : Int) := by omega
      have c2 : (0 : Int) ≤ (i : Int) := by omega
      have hw := w64 (i := i) (by omega)
      refine Ev.step (fun k => tremalaw02_UcdFolds.l1.eq_2 ..) ?_
      simp only [if_pos c1, if_pos c2, ucd_Named.f, tremaref02_Named.f, Option.bind_some, if_true, bne_self_eq_false, if_neg Bool.false_ne_true, hw]
      exact ih
  · intro i x hi hx hrd ih
    have c1 : (i : Int) < (l.length : Int) := by omega
    have c2 : (0 : Int) ≤ (i : Int) := by omega
    have hw := w64 (i := i) (by omega)
    refine Ev.step (fun k => tremalaw02_UcdFolds.l0.eq_2 ..) ?_
    simp only [if_pos c1, if_pos c2, hrd, hw]
    refine Ev.bind (foldEv x) ?_
    refine Ev.bind (reffoldEv x) ?_
    refine Ev.bind (sameEv (foldU x) (foldU x) (by have := fold_len x; omega)) ?_
    simp only [decide_true, if_true]
    exact ih
end Go.Proofs.YtfiihlgigeijcaaDoor.Vt
