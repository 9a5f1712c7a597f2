/-
  The references' Class and Trailing are the program's: at each number as at the last bound below it.
-/
import Derived.Test.YtfiihlgigeijcaaDoorVp
import Derived.Test.YtfiihlgigeijcaaDoorXtremaref02Class
import Derived.Test.YtfiihlgigeijcaaDoorXtremaref02Trailing
namespace Go.Proofs.YtfiihlgigeijcaaDoor.Vr
set_option linter.unusedVariables false
set_option linter.unusedSimpArgs false
open Go.RowKit Go.Proofs.YtfiihlgigeijcaaDoorW.PrintWords Go.Proofs.YtfiihlgigeijcaaDoor.Ev0 Go.Proofs.YtfiihlgigeijcaaDoor.X Go.Proofs.YtfiihlgigeijcaaDoor.Va Go.Proofs.YtfiihlgigeijcaaDoor.Vb Go.Proofs.YtfiihlgigeijcaaDoor.Vc Go.Proofs.YtfiihlgigeijcaaDoor.Vd Go.Proofs.YtfiihlgigeijcaaDoor.Ve Go.Proofs.YtfiihlgigeijcaaDoor.Vf Go.Proofs.YtfiihlgigeijcaaDoor.Vp

theorem rep0 (m r : Int) : ∀ B : List Int, (∀ b ∈ B, m < b) → ∃ x, x ∈ m :: B ∧ (∀ b ∈ B, (b ≤ r ↔ b ≤ x)) ∧ (x = m ∨ x ≤ r)
  | [], _ => ⟨m, List.mem_cons_self .., by simp, .inl rfl⟩
  | b :: B, h => by
    obtain ⟨x, h1, h2, h3⟩ := rep0 m r B (fun c hc => h c (List.mem_cons_of_mem _ hc))
    have hb := h b (List.mem_cons_self ..)
    by_cases c1 : b ≤ r
    · by_cases c2 : x < b
      · refine ⟨b, by simp, fun c hc => ?_, .inr c1⟩
        rcases List.mem_cons.1 hc with rfl | hc
        · exact ⟨fun _ => Int.le_refl _, fun _ => c1⟩
        · have := h2 c hc
          omega
      · refine ⟨x, ?_, fun c hc => ?_, h3⟩
        · rcases List.mem_cons.1 h1 with rfl | h1 <;> simp [*]
        · rcases List.mem_cons.1 hc with rfl | hc
          · omega
          · exact h2 c hc
    · refine ⟨x, ?_, fun c hc => ?_, h3⟩
      · rcases List.mem_cons.1 h1 with rfl | h1 <;> simp [*]
      · rcases List.mem_cons.1 hc with rfl | hc
        · omega
        · exact h2 c hc
theorem rep (B : List Int) (r : Int) (h : ∀ b ∈ B, -1 < b) : ∃ x, x ∈ -1 :: B ∧ ∀ b ∈ B, (b ≤ r ↔ b ≤ x) := by
  obtain ⟨x, h1, h2, -⟩ := rep0 (-1) r B h
  exact ⟨x, h1, h2⟩
theorem in_of {r x lo hi : Int} (h1 : lo ≤ r ↔ lo ≤ x) (h2 : hi + 1 ≤ r ↔ hi + 1 ≤ x) : tremaref02_in.f r lo hi = tremaref02_in.f x lo hi := by
  unfold tremaref02_in.f
  by_cases c : lo ≤ r
  · rw [if_pos c, if_pos (h1.1 c)]
    congr 1
    rw [decide_eq_decide]
    omega
  · rw [if_neg c, if_neg (fun h => c (h1.2 h))]
/-! class -/
def clsB : List Int := [768, 789, 790, 794, 795, 796, 801, 803, 807, 809, 820, 825, 829, 837, 838, 839, 842, 845, 847, 848, 851, 855, 856, 8400, 8402, 12441, 12443]
theorem clsF_of {r x : Int} (hx : ∀ b ∈ clsB, (b ≤ r ↔ b ≤ x)) : ∀ l : List (Int × Int × Int), (∀ p ∈ l, p.1 ∈ clsB ∧ p.2.1 + 1 ∈ clsB) → clsF r l = clsF x l
  | [], _ => rfl
  | p :: t, h => by
    have h1 := h p (List.mem_cons_self ..)
    have a1 := hx _ h1.1
    have a2 := hx _ h1.2
    rw [clsF, clsF, clsF_of hx t (fun q hq => h q (List.mem_cons_of_mem _ hq))]
    by_cases c : p.1 ≤ r ∧ r ≤ p.2.1
    · rw [if_pos c, if_pos (by omega)]
    · rw [if_neg c, if_neg (by omega)]
theorem clsB_at : ∀ x ∈ -1 :: clsB, tremaref02_Class.f 30 x = some (cls x) := by decide +kernel
theorem refcls (r : Int) : tremaref02_Class.f 30 r = some (cls r) := by
  obtain ⟨x, hx1, hx⟩ := rep clsB r (by decide)
  have hc : cls r = cls x := clsF_of hx clsT (by decide)
  have e0 := in_of (lo := 789) (hi := 789) (hx _ (by decide : (789 : Int) ∈ clsB)) (hx _ (by decide : (790 : Int) ∈ clsB))
  have e1 := in_of (lo := 794) (hi := 794) (hx _ (by decide : (794 : Int) ∈ clsB)) (hx _ (by decide : (795 : Int) ∈ clsB))
  have e2 := in_of (lo := 790) (hi := 793) (hx _ (by decide : (790 : Int) ∈ clsB)) (hx _ (by decide : (794 : Int) ∈ clsB))
  have e3 := in_of (lo := 796) (hi := 800) (hx _ (by decide : (796 : Int) ∈ clsB)) (hx _ (by decide : (801 : Int) ∈ clsB))
  have e4 := in_of (lo := 803) (hi := 806) (hx _ (by decide : (803 : Int) ∈ clsB)) (hx _ (by decide : (807 : Int) ∈ clsB))
  have e5 := in_of (lo := 809) (hi := 819) (hx _ (by decide : (809 : Int) ∈ clsB)) (hx _ (by decide : (820 : Int) ∈ clsB))
  have e6 := in_of (lo := 825) (hi := 828) (hx _ (by decide : (825 : Int) ∈ clsB)) (hx _ (by decide : (829 : Int) ∈ clsB))
  have e7 := in_of (lo := 795) (hi := 795) (hx _ (by decide : (795 : Int) ∈ clsB)) (hx _ (by decide : (796 : Int) ∈ clsB))
  have e8 := in_of (lo := 801) (hi := 802) (hx _ (by decide : (801 : Int) ∈ clsB)) (hx _ (by decide : (803 : Int) ∈ clsB))
  have e9 := in_of (lo := 807) (hi := 808) (hx _ (by decide : (807 : Int) ∈ clsB)) (hx _ (by decide : (809 : Int) ∈ clsB))
  have e10 := in_of (lo := 820) (hi := 824) (hx _ (by decide : (820 : Int) ∈ clsB)) (hx _ (by decide : (825 : Int) ∈ clsB))
  have e11 := in_of (lo := 837) (hi := 837) (hx _ (by decide : (837 : Int) ∈ clsB)) (hx _ (by decide : (838 : Int) ∈ clsB))
  have e12 := in_of (lo := 12441) (hi := 12442) (hx _ (by decide : (12441 : Int) ∈ clsB)) (hx _ (by decide : (12443 : Int) ∈ clsB))
  have e13 := in_of (lo := 839) (hi := 841) (hx _ (by decide : (839 : Int) ∈ clsB)) (hx _ (by decide : (842 : Int) ∈ clsB))
  have e14 := in_of (lo := 845) (hi := 846) (hx _ (by decide : (845 : Int) ∈ clsB)) (hx _ (by decide : (847 : Int) ∈ clsB))
  have e15 := in_of (lo := 851) (hi := 854) (hx _ (by decide : (851 : Int) ∈ clsB)) (hx _ (by decide : (855 : Int) ∈ clsB))
  have e16 := in_of (lo := 855) (hi := 855) (hx _ (by decide : (855 : Int) ∈ clsB)) (hx _ (by decide : (856 : Int) ∈ clsB))
  have e17 := in_of (lo := 8400) (hi := 8401) (hx _ (by decide : (8400 : Int) ∈ clsB)) (hx _ (by decide : (8402 : Int) ∈ clsB))
  have e18 := in_of (lo := 768) (hi := 788) (hx _ (by decide : (768 : Int) ∈ clsB)) (hx _ (by decide : (789 : Int) ∈ clsB))
  have e19 := in_of (lo := 829) (hi := 836) (hx _ (by decide : (829 : Int) ∈ clsB)) (hx _ (by decide : (837 : Int) ∈ clsB))
  have e20 := in_of (lo := 838) (hi := 838) (hx _ (by decide : (838 : Int) ∈ clsB)) (hx _ (by decide : (839 : Int) ∈ clsB))
  have e21 := in_of (lo := 842) (hi := 844) (hx _ (by decide : (842 : Int) ∈ clsB)) (hx _ (by decide : (845 : Int) ∈ clsB))
  have e22 := in_of (lo := 848) (hi := 850) (hx _ (by decide : (848 : Int) ∈ clsB)) (hx _ (by decide : (851 : Int) ∈ clsB))
  rw [hc, ← clsB_at x hx1]
  simp only [tremaref02_Class.f, tremaref02_Class.j0, tremaref02_Class.j1, tremaref02_Class.j2, tremaref02_Class.j3, tremaref02_Class.j4, tremaref02_Class.j5, e0, e1, e2, e3, e4, e5, e6, e7, e8, e9, e10, e11, e12, e13, e14, e15, e16, e17, e18, e19, e20, e21, e22]
theorem clsEv (r : Int) : Ev (fun k => tremaref02_Class.f k r) (cls r) := Ev.of (tremaref02_Class.mono r) (refcls r)
theorem reftrl (r : Int) : tremaref02_Trailing.f r = some (trl r) := by
  have h : ∀ lo hi : Int, tremaref02_in.f r lo hi = some (decide (lo ≤ r ∧ r ≤ hi)) := fun lo hi => by
    unfold tremaref02_in.f
    by_cases c : lo ≤ r
    · rw [if_pos c]; congr 1; rw [decide_eq_decide]; omega
    · rw [if_neg c]; congr 1; symm; rw [decide_eq_false_iff_not]; omega
  unfold tremaref02_Trailing.f trl
  rw [h, h]
  simp only [Option.bind_some]
  by_cases c1 : 4449 ≤ r ∧ r ≤ 4469
  · rw [decide_eq_true c1, if_pos rfl, decide_eq_true (.inl c1)]
  · rw [decide_eq_false c1, if_neg Bool.false_ne_true]
    congr 1
    rw [decide_eq_decide]
    omega
end Go.Proofs.YtfiihlgigeijcaaDoor.Vr
