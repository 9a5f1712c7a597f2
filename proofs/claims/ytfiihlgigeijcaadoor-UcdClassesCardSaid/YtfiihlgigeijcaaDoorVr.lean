/-
  The references' Class, Category and Trailing are the program's: at each number as at the last bound below it. UcdClasses.
-/
import Derived.Test.YtfiihlgigeijcaaDoorVp
import Derived.Test.YtfiihlgigeijcaaDoorXtremaref02Class
import Derived.Test.YtfiihlgigeijcaaDoorXtremaref02Category
import Derived.Test.YtfiihlgigeijcaaDoorXtremaref02Trailing
import Derived.Test.YtfiihlgigeijcaaDoorXtremalaw02UcdClasses
namespace Go.Proofs.YtfiihlgigeijcaaDoor.Vr
set_option linter.unusedVariables false
set_option linter.unusedSimpArgs false
open Go.RowKit Go.Proofs.YtfiihlgigeijcaaDoorW.PrintWords Go.Proofs.YtfiihlgigeijcaaDoor.Ev0 Go.Proofs.YtfiihlgigeijcaaDoor.X Go.Proofs.YtfiihlgigeijcaaDoor.Va Go.Proofs.YtfiihlgigeijcaaDoor.Vb Go.Proofs.YtfiihlgigeijcaaDoor.Vc Go.Proofs.YtfiihlgigeijcaaDoor.Vd Go.Proofs.YtfiihlgigeijcaaDoor.Ve Go.Proofs.YtfiihlgigeijcaaDoor.Vf Go.Proofs.YtfiihlgigeijcaaDoor.Vp

theorem rep0 (m r : Int) : ∀ B : List Int, (∀ b ∈ B, m < b) → ∃ x, x ∈ m :: B ∧ (∀ b ∈ B, (b ≤ r ↔ b ≤ x)) ∧ (x = m ∨ x ≤ r)
  | [], _ => ⟨m, List.mem_cons_self .., by simp, .inl rfl⟩
  | b :: B, h => by
    obtain ⟨x, h1, h2, h3⟩ := rep0 m r B (fun c hc => h c (List.mem_cons_of_mem _ hc))
    have hb := h b (List.mem_cons_self ..)
    by_cases c1 : b ≤ r
    · by_cases c2 : x < b
      · refine ⟨b, by simp, fun c hc => ?_, .inr c1⟩
        rcases List.mem_cons.1 hc with rfl | hc
        · exact ⟨fun _ => Int.le_refl _, fun _ => c1⟩
        · have := h2 c hc
          omega
      · refine ⟨x, ?_, fun c hc => ?_, h3⟩
        · rcases List.mem_cons.1 h1 with rfl | h1 <;> simp [*]
        · rcases List.mem_cons.1 hc with rfl | hc
          · omega
          · exact h2 c hc
    · refine ⟨x, ?_, fun c hc => ?_, h3⟩
      · rcases List.mem_cons.1 h1 with rfl | h1 <;> simp [*]
      · rcases List.mem_cons.1 hc with rfl | hc
        · omega
        · exact h2 c hc
theorem rep (B : List Int) (r : Int) (h : ∀ b ∈ B, -1 < b) : ∃ x, x ∈ -1 :: B ∧ ∀ b ∈ B, (b ≤ r ↔ b ≤ x) := by
  obtain ⟨x, h1, h2, -⟩ := rep0 (-1) r B h
  exact ⟨x, h1, h2⟩
theorem in_of {r x lo hi : Int} (h1 : lo ≤ r ↔ lo ≤ x) (h2 : hi + 1 ≤ r ↔ hi + 1 ≤ x) : tremaref02_in.f r lo hi = tremaref02_in.f x lo hi := by
  unfold tremaref02_in.f
  by_cases c : lo ≤ r
  · rw [if_pos c, if_pos (h1.1 c)]
    congr 1
    rw [decide_eq_decide]
    omega
  · rw [if_neg c, if_neg (fun h => c (h1.2 h))]
/-! class -/
def clsB : List Int := [768, 789, 790, 794, 795, 796, 801, 803, 807, 809, 820, 825, 829, 837, 838, 839, 842, 845, 847, 848, 851, 855, 856, 8400, 8402, 12441, 12443]
theorem clsF_of {r x : Int} (hx : ∀ b ∈ clsB, (b ≤ r ↔ b ≤ x)) : ∀ l : List (Int × Int × Int), (∀ p ∈ l, p.1 ∈ clsB ∧ p.2.1 + 1 ∈ clsB) → clsF r l = clsF x l
  | [], _ => rfl
  | p :: t, h => by
    have h1 := h p (List.mem_cons_self ..)
    have a1 := hx _ h1.1
    have a2 := hx _ h1.2
    rw [clsF, clsF, clsF_of hx t (fun q hq => h q (List.mem_cons_of_mem _ hq))]
    by_cases c : p.1 ≤ r ∧ r ≤ p.2.1
    · rw [if_pos c, if_pos (by omega)]
    · rw [if_neg c, if_neg (by omega)]
theorem clsB_at : ∀ x ∈ -1 :: clsB, tremaref02_Class.f 30 x = some (cls x) := by decide +kernel
theorem refcls (r : Int) : tremaref02_Class.f 30 r = some (cls r) := by
  obtain ⟨x, hx1, hx⟩ := rep clsB r (by decide)
  have hc : cls r = cls x := clsF_of hx clsT (by decide)
  have e0 := in_of (lo := 789) (hi := 789) (hx _ (by decide : (789 : Int) ∈ clsB)) (hx _ (by decide : (790 : Int) ∈ clsB))
  have e1 := in_of (lo := 794) (hi := 794) (hx _ (by decide : (794 : Int) ∈ clsB)) (hx _ (by decide : (795 : Int) ∈ clsB))
  have e2 := in_of (lo := 790) (hi := 793) (hx _ (by decide : (790 : Int) ∈ clsB)) (hx _ (by decide : (794 : Int) ∈ clsB))
  have e3 := in_of (lo := 796) (hi := 800) (hx _ (by decide : (796 : Int) ∈ clsB)) (hx _ (by decide : (801 : Int) ∈ clsB))
  have e4 := in_of (lo := 803) (hi := 806) (hx _ (by decide : (803 : Int) ∈ clsB)) (hx _ (by decide : (807 : Int) ∈ clsB))
  have e5 := in_of (lo := 809) (hi := 819) (hx _ (by decide : (809 : Int) ∈ clsB)) (hx _ (by decide : (820 : Int) ∈ clsB))
  have e6 := in_of (lo := 825) (hi := 828) (hx _ (by decide : (825 : Int) ∈ clsB)) (hx _ (by decide : (829 : Int) ∈ clsB))
  have e7 := in_of (lo := 795) (hi := 795) (hx _ (by decide : (795 : Int) ∈ clsB)) (hx _ (by decide : (796 : Int) ∈ clsB))
  have e8 := in_of (lo := 801) (hi := 802) (hx _ (by decide : (801 : Int) ∈ clsB)) (hx _ (by decide : (803 : Int) ∈ clsB))
  have e9 := in_of (lo := 807) (hi := 808) (hx _ (by decide : (807 : Int) ∈ clsB)) (hx _ (by decide : (809 : Int) ∈ clsB))
  have e10 := in_of (lo := 820) (hi := 824) (hx _ (by decide : (820 : Int) ∈ clsB)) (hx _ (by decide : (825 : Int) ∈ clsB))
  have e11 := in_of (lo := 837) (hi := 837) (hx _ (by decide : (837 : Int) ∈ clsB)) (hx _ (by decide : (838 : Int) ∈ clsB))
  have e12 := in_of (lo := 12441) (hi := 12442) (hx _ (by decide : (12441 : Int) ∈ clsB)) (hx _ (by decide : (12443 : Int) ∈ clsB))
  have e13 := in_of (lo := 839) (hi := 841) (hx _ (by decide : (839 : Int) ∈ clsB)) (hx _ (by decide : (842 : Int) ∈ clsB))
  have e14 := in_of (lo := 845) (hi := 846) (hx _ (by decide : (845 : Int) ∈ clsB)) (hx _ (by decide : (847 : Int) ∈ clsB))
  have e15 := in_of (lo := 851) (hi := 854) (hx _ (by decide : (851 : Int) ∈ clsB)) (hx _ (by decide : (855 : Int) ∈ clsB))
  have e16 := in_of (lo := 855) (hi := 855) (hx _ (by decide : (855 : Int) ∈ clsB)) (hx _ (by decide : (856 : Int) ∈ clsB))
  have e17 := in_of (lo := 8400) (hi := 8401) (hx _ (by decide : (8400 : Int) ∈ clsB)) (hx _ (by decide : (8402 : Int) ∈ clsB))
  have e18 := in_of (lo := 768) (hi := 788) (hx _ (by decide : (768 : Int) ∈ clsB)) (hx _ (by decide : (789 : Int) ∈ clsB))
  have e19 := in_of (lo := 829) (hi := 836) (hx _ (by decide : (829 : Int) ∈ clsB)) (hx _ (by decide : (837 : Int) ∈ clsB))
  have e20 := in_of (lo := 838) (hi := 838) (hx _ (by decide : (838 : Int) ∈ clsB)) (hx _ (by decide : (839 : Int) ∈ clsB))
  have e21 := in_of (lo := 842) (hi := 844) (hx _ (by decide : (842 : Int) ∈ clsB)) (hx _ (by decide : (845 : Int) ∈ clsB))
  have e22 := in_of (lo := 848) (hi := 850) (hx _ (by decide : (848 : Int) ∈ clsB)) (hx _ (by decide : (851 : Int) ∈ clsB))
  rw [hc, ← clsB_at x hx1]
  simp only [tremaref02_Class.f, tremaref02_Class.j0, tremaref02_Class.j1, tremaref02_Class.j2, tremaref02_Class.j3, tremaref02_Class.j4, tremaref02_Class.j5, e0, e1, e2, e3, e4, e5, e6, e7, e8, e9, e10, e11, e12, e13, e14, e15, e16, e17, e18, e19, e20, e21, e22]
theorem clsEv (r : Int) : Ev (fun k => tremaref02_Class.f k r) (cls r) := Ev.of (tremaref02_Class.mono r) (refcls r)
/-! category -/
def catB : List Int := [32, 33, 36, 37, 43, 44, 48, 58, 60, 63, 65, 91, 94, 95, 96, 97, 123, 124, 125, 126, 127, 160, 161, 162, 167, 168, 170, 171, 172, 173, 174, 178, 180, 181, 182, 184, 185, 186, 187, 188, 191, 192, 215, 216, 247, 248, 688, 768, 880, 902, 903, 904, 1024, 1154, 1155, 1162, 1328, 1632, 1642, 4352, 4608, 7680, 8125, 8192, 8203, 8208, 8232, 8234, 8240, 8260, 8352, 8385, 8400, 8413, 8486, 8487, 8490, 8492, 8592, 8960, 12288, 12289, 12292, 12353, 12439, 12441, 12443, 12449, 12539, 19968, 40960, 44032, 55204, 65296, 65306, 65533, 65534, 128512, 128592]
theorem lst_in : ∀ k ∈ [(1 : Int), 2, 3, 4, 5, 6], ∀ p ∈ lst k, p.f0 ∈ catB ∧ p.f1 + 1 ∈ catB := by decide +kernel
theorem any_of {r x : Int} (hx : ∀ b ∈ catB, (b ≤ r ↔ b ≤ x)) (k : Int) (hk : k ∈ [(1 : Int), 2, 3, 4, 5, 6]) : (lst k).any (inR r) = (lst k).any (inR x) := by
  have h := lst_in k hk
  revert h
  induction lst k with
  | nil => intro _; rfl
  | cons p t ih =>
    intro h
    have h1 := h p (List.mem_cons_self ..)
    have a1 := hx _ h1.1
    have a2 := hx _ h1.2
    rw [List.any_cons, List.any_cons, ih (fun q hq => h q (List.mem_cons_of_mem _ hq))]
    congr 1
    unfold inR
    congr 1
    · rw [decide_eq_decide]; omega
    · rw [decide_eq_decide]; omega
theorem cat_of {r x : Int} (hx : ∀ b ∈ catB, (b ≤ r ↔ b ≤ x)) : cat r = cat x := by
  unfold cat
  simp only [catF]
  rw [any_of hx ((1 : Nat) : Int) (by decide), any_of hx ((1 + 1 : Nat) : Int) (by decide), any_of hx ((1 + 1 + 1 : Nat) : Int) (by decide), any_of hx ((1 + 1 + 1 + 1 : Nat) : Int) (by decide), any_of hx ((1 + 1 + 1 + 1 + 1 : Nat) : Int) (by decide), any_of hx ((1 + 1 + 1 + 1 + 1 + 1 : Nat) : Int) (by decide)]
theorem catB_at : ∀ x ∈ -1 :: catB, tremaref02_Category.f 30 x = some (cat x) := by decide +kernel
theorem refcat (r : Int) : tremaref02_Category.f 30 r = some (cat r) := by
  obtain ⟨x, hx1, hx⟩ := rep catB r (by decide)
  have e0 := in_of (lo := 48) (hi := 57) (hx _ (by decide : (48 : Int) ∈ catB)) (hx _ (by decide : (58 : Int) ∈ catB))
  have e1 := in_of (lo := 178) (hi := 179) (hx _ (by decide : (178 : Int) ∈ catB)) (hx _ (by decide : (180 : Int) ∈ catB))
  have e2 := in_of (lo := 185) (hi := 185) (hx _ (by decide : (185 : Int) ∈ catB)) (hx _ (by decide : (186 : Int) ∈ catB))
  have e3 := in_of (lo := 188) (hi := 190) (hx _ (by decide : (188 : Int) ∈ catB)) (hx _ (by decide : (191 : Int) ∈ catB))
  have e4 := in_of (lo := 1632) (hi := 1641) (hx _ (by decide : (1632 : Int) ∈ catB)) (hx _ (by decide : (1642 : Int) ∈ catB))
  have e5 := in_of (lo := 65296) (hi := 65305) (hx _ (by decide : (65296 : Int) ∈ catB)) (hx _ (by decide : (65306 : Int) ∈ catB))
  have e6 := in_of (lo := 768) (hi := 879) (hx _ (by decide : (768 : Int) ∈ catB)) (hx _ (by decide : (880 : Int) ∈ catB))
  have e7 := in_of (lo := 1155) (hi := 1161) (hx _ (by decide : (1155 : Int) ∈ catB)) (hx _ (by decide : (1162 : Int) ∈ catB))
  have e8 := in_of (lo := 8400) (hi := 8412) (hx _ (by decide : (8400 : Int) ∈ catB)) (hx _ (by decide : (8413 : Int) ∈ catB))
  have e9 := in_of (lo := 12441) (hi := 12442) (hx _ (by decide : (12441 : Int) ∈ catB)) (hx _ (by decide : (12443 : Int) ∈ catB))
  have e10 := in_of (lo := 33) (hi := 35) (hx _ (by decide : (33 : Int) ∈ catB)) (hx _ (by decide : (36 : Int) ∈ catB))
  have e11 := in_of (lo := 37) (hi := 42) (hx _ (by decide : (37 : Int) ∈ catB)) (hx _ (by decide : (43 : Int) ∈ catB))
  have e12 := in_of (lo := 44) (hi := 47) (hx _ (by decide : (44 : Int) ∈ catB)) (hx _ (by decide : (48 : Int) ∈ catB))
  have e13 := in_of (lo := 58) (hi := 59) (hx _ (by decide : (58 : Int) ∈ catB)) (hx _ (by decide : (60 : Int) ∈ catB))
  have e14 := in_of (lo := 63) (hi := 64) (hx _ (by decide : (63 : Int) ∈ catB)) (hx _ (by decide : (65 : Int) ∈ catB))
  have e15 := in_of (lo := 36) (hi := 36) (hx _ (by decide : (36 : Int) ∈ catB)) (hx _ (by decide : (37 : Int) ∈ catB))
  have e16 := in_of (lo := 43) (hi := 43) (hx _ (by decide : (43 : Int) ∈ catB)) (hx _ (by decide : (44 : Int) ∈ catB))
  have e17 := in_of (lo := 60) (hi := 62) (hx _ (by decide : (60 : Int) ∈ catB)) (hx _ (by decide : (63 : Int) ∈ catB))
  have e18 := in_of (lo := 94) (hi := 94) (hx _ (by decide : (94 : Int) ∈ catB)) (hx _ (by decide : (95 : Int) ∈ catB))
  have e19 := in_of (lo := 96) (hi := 96) (hx _ (by decide : (96 : Int) ∈ catB)) (hx _ (by decide : (97 : Int) ∈ catB))
  have e20 := in_of (lo := 65) (hi := 90) (hx _ (by decide : (65 : Int) ∈ catB)) (hx _ (by decide : (91 : Int) ∈ catB))
  have e21 := in_of (lo := 97) (hi := 122) (hx _ (by decide : (97 : Int) ∈ catB)) (hx _ (by decide : (123 : Int) ∈ catB))
  have e22 := in_of (lo := 170) (hi := 170) (hx _ (by decide : (170 : Int) ∈ catB)) (hx _ (by decide : (171 : Int) ∈ catB))
  have e23 := in_of (lo := 181) (hi := 181) (hx _ (by decide : (181 : Int) ∈ catB)) (hx _ (by decide : (182 : Int) ∈ catB))
  have e24 := in_of (lo := 186) (hi := 186) (hx _ (by decide : (186 : Int) ∈ catB)) (hx _ (by decide : (187 : Int) ∈ catB))
  have e25 := in_of (lo := 192) (hi := 214) (hx _ (by decide : (192 : Int) ∈ catB)) (hx _ (by decide : (215 : Int) ∈ catB))
  have e26 := in_of (lo := 216) (hi := 246) (hx _ (by decide : (216 : Int) ∈ catB)) (hx _ (by decide : (247 : Int) ∈ catB))
  have e27 := in_of (lo := 248) (hi := 687) (hx _ (by decide : (248 : Int) ∈ catB)) (hx _ (by decide : (688 : Int) ∈ catB))
  have e28 := in_of (lo := 902) (hi := 902) (hx _ (by decide : (902 : Int) ∈ catB)) (hx _ (by decide : (903 : Int) ∈ catB))
  have e29 := in_of (lo := 904) (hi := 1023) (hx _ (by decide : (904 : Int) ∈ catB)) (hx _ (by decide : (1024 : Int) ∈ catB))
  have e30 := in_of (lo := 1024) (hi := 1153) (hx _ (by decide : (1024 : Int) ∈ catB)) (hx _ (by decide : (1154 : Int) ∈ catB))
  have e31 := in_of (lo := 1162) (hi := 1327) (hx _ (by decide : (1162 : Int) ∈ catB)) (hx _ (by decide : (1328 : Int) ∈ catB))
  have e32 := in_of (lo := 4352) (hi := 4607) (hx _ (by decide : (4352 : Int) ∈ catB)) (hx _ (by decide : (4608 : Int) ∈ catB))
  have e33 := in_of (lo := 7680) (hi := 8124) (hx _ (by decide : (7680 : Int) ∈ catB)) (hx _ (by decide : (8125 : Int) ∈ catB))
  have e34 := in_of (lo := 8486) (hi := 8486) (hx _ (by decide : (8486 : Int) ∈ catB)) (hx _ (by decide : (8487 : Int) ∈ catB))
  have e35 := in_of (lo := 8490) (hi := 8491) (hx _ (by decide : (8490 : Int) ∈ catB)) (hx _ (by decide : (8492 : Int) ∈ catB))
  have e36 := in_of (lo := 12353) (hi := 12438) (hx _ (by decide : (12353 : Int) ∈ catB)) (hx _ (by decide : (12439 : Int) ∈ catB))
  have e37 := in_of (lo := 12449) (hi := 12538) (hx _ (by decide : (12449 : Int) ∈ catB)) (hx _ (by decide : (12539 : Int) ∈ catB))
  have e38 := in_of (lo := 19968) (hi := 40959) (hx _ (by decide : (19968 : Int) ∈ catB)) (hx _ (by decide : (40960 : Int) ∈ catB))
  have e39 := in_of (lo := 44032) (hi := 55203) (hx _ (by decide : (44032 : Int) ∈ catB)) (hx _ (by decide : (55204 : Int) ∈ catB))
  have e40 := in_of (lo := 124) (hi := 124) (hx _ (by decide : (124 : Int) ∈ catB)) (hx _ (by decide : (125 : Int) ∈ catB))
  have e41 := in_of (lo := 126) (hi := 126) (hx _ (by decide : (126 : Int) ∈ catB)) (hx _ (by decide : (127 : Int) ∈ catB))
  have e42 := in_of (lo := 162) (hi := 166) (hx _ (by decide : (162 : Int) ∈ catB)) (hx _ (by decide : (167 : Int) ∈ catB))
  have e43 := in_of (lo := 168) (hi := 169) (hx _ (by decide : (168 : Int) ∈ catB)) (hx _ (by decide : (170 : Int) ∈ catB))
  have e44 := in_of (lo := 172) (hi := 172) (hx _ (by decide : (172 : Int) ∈ catB)) (hx _ (by decide : (173 : Int) ∈ catB))
  have e45 := in_of (lo := 174) (hi := 177) (hx _ (by decide : (174 : Int) ∈ catB)) (hx _ (by decide : (178 : Int) ∈ catB))
  have e46 := in_of (lo := 180) (hi := 180) (hx _ (by decide : (180 : Int) ∈ catB)) (hx _ (by decide : (181 : Int) ∈ catB))
  have e47 := in_of (lo := 184) (hi := 184) (hx _ (by decide : (184 : Int) ∈ catB)) (hx _ (by decide : (185 : Int) ∈ catB))
  have e48 := in_of (lo := 215) (hi := 215) (hx _ (by decide : (215 : Int) ∈ catB)) (hx _ (by decide : (216 : Int) ∈ catB))
  have e49 := in_of (lo := 247) (hi := 247) (hx _ (by decide : (247 : Int) ∈ catB)) (hx _ (by decide : (248 : Int) ∈ catB))
  have e50 := in_of (lo := 8352) (hi := 8384) (hx _ (by decide : (8352 : Int) ∈ catB)) (hx _ (by decide : (8385 : Int) ∈ catB))
  have e51 := in_of (lo := 8592) (hi := 8959) (hx _ (by decide : (8592 : Int) ∈ catB)) (hx _ (by decide : (8960 : Int) ∈ catB))
  have e52 := in_of (lo := 65533) (hi := 65533) (hx _ (by decide : (65533 : Int) ∈ catB)) (hx _ (by decide : (65534 : Int) ∈ catB))
  have e53 := in_of (lo := 128512) (hi := 128591) (hx _ (by decide : (128512 : Int) ∈ catB)) (hx _ (by decide : (128592 : Int) ∈ catB))
  have e54 := in_of (lo := 91) (hi := 93) (hx _ (by decide : (91 : Int) ∈ catB)) (hx _ (by decide : (94 : Int) ∈ catB))
  have e55 := in_of (lo := 95) (hi := 95) (hx _ (by decide : (95 : Int) ∈ catB)) (hx _ (by decide : (96 : Int) ∈ catB))
  have e56 := in_of (lo := 123) (hi := 123) (hx _ (by decide : (123 : Int) ∈ catB)) (hx _ (by decide : (124 : Int) ∈ catB))
  have e57 := in_of (lo := 125) (hi := 125) (hx _ (by decide : (125 : Int) ∈ catB)) (hx _ (by decide : (126 : Int) ∈ catB))
  have e58 := in_of (lo := 161) (hi := 161) (hx _ (by decide : (161 : Int) ∈ catB)) (hx _ (by decide : (162 : Int) ∈ catB))
  have e59 := in_of (lo := 167) (hi := 167) (hx _ (by decide : (167 : Int) ∈ catB)) (hx _ (by decide : (168 : Int) ∈ catB))
  have e60 := in_of (lo := 171) (hi := 171) (hx _ (by decide : (171 : Int) ∈ catB)) (hx _ (by decide : (172 : Int) ∈ catB))
  have e61 := in_of (lo := 182) (hi := 183) (hx _ (by decide : (182 : Int) ∈ catB)) (hx _ (by decide : (184 : Int) ∈ catB))
  have e62 := in_of (lo := 187) (hi := 187) (hx _ (by decide : (187 : Int) ∈ catB)) (hx _ (by decide : (188 : Int) ∈ catB))
  have e63 := in_of (lo := 191) (hi := 191) (hx _ (by decide : (191 : Int) ∈ catB)) (hx _ (by decide : (192 : Int) ∈ catB))
  have e64 := in_of (lo := 903) (hi := 903) (hx _ (by decide : (903 : Int) ∈ catB)) (hx _ (by decide : (904 : Int) ∈ catB))
  have e65 := in_of (lo := 8208) (hi := 8231) (hx _ (by decide : (8208 : Int) ∈ catB)) (hx _ (by decide : (8232 : Int) ∈ catB))
  have e66 := in_of (lo := 8240) (hi := 8259) (hx _ (by decide : (8240 : Int) ∈ catB)) (hx _ (by decide : (8260 : Int) ∈ catB))
  have e67 := in_of (lo := 12289) (hi := 12291) (hx _ (by decide : (12289 : Int) ∈ catB)) (hx _ (by decide : (12292 : Int) ∈ catB))
  have e68 := in_of (lo := 32) (hi := 32) (hx _ (by decide : (32 : Int) ∈ catB)) (hx _ (by decide : (33 : Int) ∈ catB))
  have e69 := in_of (lo := 160) (hi := 160) (hx _ (by decide : (160 : Int) ∈ catB)) (hx _ (by decide : (161 : Int) ∈ catB))
  have e70 := in_of (lo := 8192) (hi := 8202) (hx _ (by decide : (8192 : Int) ∈ catB)) (hx _ (by decide : (8203 : Int) ∈ catB))
  have e71 := in_of (lo := 8232) (hi := 8233) (hx _ (by decide : (8232 : Int) ∈ catB)) (hx _ (by decide : (8234 : Int) ∈ catB))
  have e72 := in_of (lo := 12288) (hi := 12288) (hx _ (by decide : (12288 : Int) ∈ catB)) (hx _ (by decide : (12289 : Int) ∈ catB))
  rw [cat_of hx, ← catB_at x hx1]
  simp only [tremaref02_Category.f, tremaref02_Category.j0, tremaref02_Category.j1, tremaref02_Category.j10, tremaref02_Category.j11, tremaref02_Category.j12, tremaref02_Category.j13, tremaref02_Category.j2, tremaref02_Category.j3, tremaref02_Category.j4, tremaref02_Category.j5, tremaref02_Category.j6, tremaref02_Category.j7, tremaref02_Category.j8, tremaref02_Category.j9, e0, e1, e2, e3, e4, e5, e6, e7, e8, e9, e10, e11, e12, e13, e14, e15, e16, e17, e18, e19, e20, e21, e22, e23, e24, e25, e26, e27, e28, e29, e30, e31, e32, e33, e34, e35, e36, e37, e38, e39, e40, e41, e42, e43, e44, e45, e46, e47, e48, e49, e50, e51, e52, e53, e54, e55, e56, e57, e58, e59, e60, e61, e62, e63, e64, e65, e66, e67, e68, e69, e70, e71, e72]
theorem catEv (r : Int) : Ev (fun k => tremaref02_Category.f k r) (cat r) := Ev.of (tremaref02_Category.mono r) (refcat r)
theorem reftrl (r : Int) : tremaref02_Trailing.f r = some (trl r) := by
  have h : ∀ lo hi : Int, tremaref02_in.f r lo hi = some (decide (lo ≤ r ∧ r ≤ hi)) := fun lo hi => by
    unfold tremaref02_in.f
    by_cases c : lo ≤ r
    · rw [if_pos c]; congr 1; rw [decide_eq_decide]; omega
    · rw [if_neg c]; congr 1; symm; rw [decide_eq_false_iff_not]; omega
  unfold tremaref02_Trailing.f trl
  rw [h, h]
  simp only [Option.bind_some]
  by_cases c1 : 4449 ≤ r ∧ r ≤ 4469
  · rw [decide_eq_true c1, if_pos rfl, decide_eq_true (.inl c1)]
  · rw [decide_eq_false c1, if_neg Bool.false_ne_true]
    congr 1
    rw [decide_eq_decide]
    omega
theorem UcdClasses (l : List Int) (hwf : ∀ x ∈ l, (Lit.int .i32 x).wf = true) (hl : l.length * 4 ≤ 140737488351232) : ∃ k, tremalaw02_UcdClasses.f k l = some true := by
  apply Ev.rounds (g := fun k => tremalaw02_UcdClasses.f k l)
  unfold tremalaw02_UcdClasses.f
  refine Ev.bind fixEv ?_
  simp only [if_true]
  refine ev_list (l := l) (F := fun k i => tremalaw02_UcdClasses.l0 k l (l.length : Int) i) ?_ ?_
  · refine Ev.step (fun k => tremalaw02_UcdClasses.l0.eq_2 ..) ?_
    simp only [if_neg (Int.lt_irrefl _)]
    exact Ev.now _
  · intro i x hi hx hrd ih
    have c1 : (i : Int) < (l.length : Int) := by omega
    have c2 : (0 : Int) ≤ (i : Int) := by omega
    have hw := w64 (i := i) (by omega)
    refine Ev.step (fun k => tremalaw02_UcdClasses.l0.eq_2 ..) ?_
    simp only [if_pos c1, if_pos c2, hrd, ucd_Class.f, Option.bind_some, hw]
    refine Ev.bind (clsEv x) ?_
    simp only [if_true, ucd_Category.f, Option.bind_some]
    refine Ev.bind (catEv x) ?_
    simp only [if_true, trl_pure, reftrl, Option.bind_some, bne_self_eq_false, if_neg Bool.false_ne_true]
    exact ih
end Go.Proofs.YtfiihlgigeijcaaDoor.Vr
