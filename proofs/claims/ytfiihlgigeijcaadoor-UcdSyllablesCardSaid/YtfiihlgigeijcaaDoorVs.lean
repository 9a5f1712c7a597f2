/-
  The plain law UcdSyllables.
-/
import Derived.Test.YtfiihlgigeijcaaDoorVp
import Derived.Test.YtfiihlgigeijcaaDoorXtremalaw02UcdSyllables
namespace Go.Proofs.YtfiihlgigeijcaaDoor.Vs
set_option linter.unusedVariables false
set_option linter.unusedSimpArgs false
open Go.RowKit Go.Proofs.YtfiihlgigeijcaaDoorW.PrintWords Go.Proofs.YtfiihlgigeijcaaDoor.Ev0 Go.Proofs.YtfiihlgigeijcaaDoor.X Go.Proofs.YtfiihlgigeijcaaDoor.Va Go.Proofs.YtfiihlgigeijcaaDoor.Vb Go.Proofs.YtfiihlgigeijcaaDoor.Vc Go.Proofs.YtfiihlgigeijcaaDoor.Vd Go.Proofs.YtfiihlgigeijcaaDoor.Ve Go.Proofs.YtfiihlgigeijcaaDoor.Vf Go.Proofs.YtfiihlgigeijcaaDoor.Vp

theorem wf16 {x : Int} (h : (Lit.int .u16 x).wf = true) : 0 ≤ x ∧ x ≤ 65535 := by
  simp [Lit.wf] at h
  have e1 : IntKind.u16.min = 0 := by decide
  have e2 : IntKind.u16.max = 65535 := by decide
  omega
theorem w32 {x : Int} (h0 : -2147483648 ≤ x) (h1 : x ≤ 2147483647) : wrap32 x = x := by unfold wrap32; omega
theorem jamo_opn (r : Int) (h : 4352 ≤ r ∧ r ≤ 4370) : opn r = true := by
  have hc : cls r = 0 := by
    rcases Int.decEq (cls r) 0 with h0 | h0
    · have h1 := cls_spread r h0
      have h2 : ∀ x ∈ spread clsT, x < 4352 ∨ 4370 < x := by decide +kernel
      have := h2 r h1
      omega
    · exact h0
  rw [opn_zero r (jamo_zero r (by omega)), hc]
  have : trl r = false := by unfold trl; exact decide_eq_false (by omega)
  rw [this]; rfl
theorem fold_syl (s : Nat) : foldU (44032 + (s : Int)) = [44032 + (s : Int)] := by
  unfold foldU
  rw [fold_out _ (.inr (by omega))]
  rfl
theorem UcdSyllables (l : List Int) (hwf : ∀ x ∈ l, (Lit.int .u16 x).wf = true) (hl : l.length * 2 ≤ 140737488351232) : ∃ k, tremalaw02_UcdSyllables.f k l = some true := by
  apply Ev.rounds (g := fun k => tremalaw02_UcdSyllables.f k l)
  unfold tremalaw02_UcdSyllables.f
  refine Ev.bind fixEv ?_
  simp only [if_true]
  refine ev_list (l := l) (F := fun k i => tremalaw02_UcdSyllables.l0 k l (l.length : Int) i) ?_ ?_
  · refine Ev.step (fun k => tremalaw02_UcdSyllables.l0.eq_2 ..) ?_
    simp only [if_neg (Int.lt_irrefl _)]
    exact Ev.now _
  · intro i x hi hx hrd ih
    have c1 : (i : Int) < (l.length : Int) := by omega
    have c2 : (0 : Int) ≤ (i : Int) := by omega
    have hw := w64 (i := i) (by omega)
    have hx16 := wf16 (hwf x hx)
    obtain ⟨s, hs, hs2⟩ : ∃ s : Nat, s ≤ 11171 ∧ wrap32 (44032 + (Int.tmod (wrap32 x) 11172)) = 44032 + (s : Int) := by
      refine ⟨x.toNat % 11172, by omega, ?_⟩
      rw [w32 (x := x) (by omega) (by omega), Int.tmod_eq_emod_of_nonneg (by omega), w32 (by omega) (by omega)]
      omega
    have hd := syl_dec s hs
    have ho : opn (44032 + (s : Int)) = true := by
      rw [← opn_first _ (by unfold I32; omega), hd]
      exact jamo_opn _ (by simp; omega)
    have ht : trl (4449 + ((s % 588 / 28 : Nat) : Int)) = true := by unfold trl; exact decide_eq_true (by omega)
    have hf := fold_syl s
    obtain ⟨r, hr⟩ : ∃ r : Int, r = 44032 + (s : Int) := ⟨_, rfl⟩
    have hr32 : -2147483648 ≤ r ∧ r ≤ 2147483647 := by omega
    rw [← hr] at hs2 hd ho hf
    refine Ev.step (fun k => tremalaw02_UcdSyllables.l0.eq_2 ..) ?_
    simp only [if_pos c1, if_pos c2, hrd, ucd_Decompose.f, hs2, if_pos hr32, Option.bind_some, hd]
    obtain ⟨L, hL⟩ : ∃ L : Int, L = 4352 + ((s / 588 : Nat) : Int) := ⟨_, rfl⟩
    obtain ⟨V, hV⟩ : ∃ V : Int, V = 4449 + ((s % 588 / 28 : Nat) : Int) := ⟨_, rfl⟩
    obtain ⟨t, hT⟩ : ∃ t : Nat, t = s % 28 := ⟨_, rfl⟩
    have hLV : r = 44032 + ((L - 4352) * 21 + V - 4449) * 28 + (t : Int) := by omega
    have L1 : 4352 ≤ L ∧ L ≤ 4370 := by omega
    have V1 : 4449 ≤ V ∧ V ≤ 4469 := by omega
    have t1 : t ≤ 27 := by omega
    rw [← hL, ← hV, ← hT]
    rw [← hV] at ht
    clear hL hV hT hd hs2 hr
    have e1 : wrap32 (L - 4352) = L - 4352 := w32 (by omega) (by omega)
    have e2 : wrap32 ((L - 4352) * 21) = (L - 4352) * 21 := w32 (by omega) (by omega)
    have e3 : wrap32 ((L - 4352) * 21 + V) = (L - 4352) * 21 + V := w32 (by omega) (by omega)
    have e4 : wrap32 ((L - 4352) * 21 + V - 4449) = (L - 4352) * 21 + V - 4449 := w32 (by omega) (by omega)
    have e5 : wrap32 (((L - 4352) * 21 + V - 4449) * 28) = ((L - 4352) * 21 + V - 4449) * 28 := w32 (by omega) (by omega)
    have e6 : wrap32 (44032 + ((L - 4352) * 21 + V - 4449) * 28) = 44032 + ((L - 4352) * 21 + V - 4449) * 28 := w32 (by omega) (by omega)
    have fin : ∀ (d : List Int), rd d 1 = V → (d.length = 2 ∨ d.length = 3) → Ev (fun k => tremalaw02_UcdSyllables.j2 k r d r l (l.length : Int) (i : Int)) true := by
      intro d hd1 hdl
      refine Ev.step (fun k => tremalaw02_UcdSyllables.j2.eq_2 ..) ?_
      simp only [if_true, ucd_Opens.f, if_pos hr32, Option.bind_some, ho, if_pos (show (1 : Int) < (d.length : Int) by omega), hd1, trl_pure, ht, hw]
      refine Ev.bind (foldEv r) ?_
      rw [hf]
      refine Ev.bind (sameEv [r] [r] (by simp)) ?_
      simp only [decide_true, if_true]
      exact ih
    by_cases h0 : t = 0
    · rw [if_pos h0, List.append_nil]
      have g0 : rd [L, V] 0 = L := rfl
      have g1 : rd [L, V] 1 = V := rfl
      have gl : (([L, V] : List Int).length : Int) = 2 := rfl
      simp only [gl, g0, g1, if_neg (show ¬ (2 : Int) < 2 by decide), if_neg (show ¬ (2 : Int) > 3 by decide), if_pos (show (0 : Int) < 2 by decide), if_neg (show ¬ L < 4352 by omega), if_neg (show ¬ L > 4370 by omega), if_pos (show (1 : Int) < 2 by decide), if_neg (show ¬ V < 4449 by omega), decide_eq_false (show ¬ V > 4469 by omega)]
      refine Ev.step (fun k => tremalaw02_UcdSyllables.j1.eq_2 ..) ?_
      simp only [if_neg Bool.false_ne_true, gl, g0, g1, if_pos (show (0 : Int) < 2 by decide), if_pos (show (1 : Int) < 2 by decide), if_neg (show ¬ (2 : Int) = 3 by decide), e1, e2, e3, e4, e5, e6]
      rw [show 44032 + ((L - 4352) * 21 + V - 4449) * 28 = r by omega]
      exact fin _ g1 (.inl rfl)
    · rw [if_neg h0]
      have g0 : rd ([L, V] ++ [4519 + (t : Int)]) 0 = L := rfl
      have g1 : rd ([L, V] ++ [4519 + (t : Int)]) 1 = V := rfl
      have g2 : rd ([L, V] ++ [4519 + (t : Int)]) 2 = 4519 + (t : Int) := rfl
      have gl : ((([L, V] ++ [4519 + (t : Int)]) : List Int).length : Int) = 3 := rfl
      have f1 : wrap32 (4519 + (t : Int) - 4519) = (t : Int) := by rw [w32 (by omega) (by omega)]; omega
      have f2 : wrap32 (44032 + ((L - 4352) * 21 + V - 4449) * 28 + (t : Int)) = r := by rw [w32 (by omega) (by omega)]; omega
      simp only [gl, g0, g1, if_neg (show ¬ (3 : Int) < 2 by decide), if_neg (show ¬ (3 : Int) > 3 by decide), if_pos (show (0 : Int) < 3 by decide), if_neg (show ¬ L < 4352 by omega), if_neg (show ¬ L > 4370 by omega), if_pos (show (1 : Int) < 3 by decide), if_neg (show ¬ V < 4449 by omega), decide_eq_false (show ¬ V > 4469 by omega)]
      refine Ev.step (fun k => tremalaw02_UcdSyllables.j1.eq_2 ..) ?_
      simp only [if_neg Bool.false_ne_true, gl, g0, g1, g2, if_pos (show (0 : Int) < 3 by decide), if_pos (show (1 : Int) < 3 by decide), if_pos (show (2 : Int) < 3 by decide), if_true, if_neg (show ¬ 4519 + (t : Int) < 4520 by omega), if_neg (show ¬ 4519 + (t : Int) > 4546 by omega), e1, e2, e3, e4, e5, e6, f1, f2]
      exact fin _ g1 (.inr rfl)
end Go.Proofs.YtfiihlgigeijcaaDoor.Vs
