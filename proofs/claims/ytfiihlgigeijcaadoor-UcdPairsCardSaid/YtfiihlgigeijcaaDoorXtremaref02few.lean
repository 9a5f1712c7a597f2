-- Written by a program of this session (xprint.py), over the kit's print.
import Derived.Test.YtfiihlgigeijcaaDoorX0
namespace Go.Proofs.YtfiihlgigeijcaaDoor.X
open Go.RowKit Go.Proofs.YtfiihlgigeijcaaDoorW.PrintWords Go.Proofs.YtfiihlgigeijcaaDoorW.PrintLast Go.Proofs.YtfiihlgigeijcaaDoorW.PrintMore
attribute [local go_sem] max2_int min2_int max_two min_two max_three min_three max_four min_four   -- for this text's walks alone
set_option linter.unusedVariables false
set_option linter.unusedSimpArgs false

/-! ### tremaref02_few: function 40 -/
def tremaref02_few.f (a0 : Int) : Option (Int × Int × Int) := if a0 = 469 then (some (220, 772, 2)) else (if a0 = 470 then (some (252, 772, 2)) else (if a0 = 832 then (some (768, 0, 1)) else (if a0 = 833 then (some (769, 0, 1)) else (if a0 = 835 then (some (787, 0, 1)) else (if a0 = 836 then (some (776, 769, 2)) else (if a0 = 902 then (some (913, 769, 2)) else (if a0 = 912 then (some (970, 769, 2)) else (if a0 = 940 then (some (945, 769, 2)) else (if a0 = 943 then (some (953, 769, 2)) else (if a0 = 970 then (some (953, 776, 2)) else (if a0 = 972 then (some (959, 769, 2)) else (if a0 = 7691 then (some (100, 775, 2)) else (if a0 = 7693 then (some (100, 803, 2)) else (if a0 = 7777 then (some (115, 775, 2)) else (if a0 = 7779 then (some (115, 803, 2)) else (if a0 = 7785 then (some (7779, 775, 2)) else (if a0 = 7841 then (some (97, 803, 2)) else (if a0 = 7844 then (some (194, 769, 2)) else (if a0 = 7845 then (some (226, 769, 2)) else (if a0 = 7863 then (some (7841, 774, 2)) else (if a0 = 7865 then (some (101, 803, 2)) else (if a0 = 7879 then (some (7865, 770, 2)) else (if a0 = 8049 then (some (940, 0, 1)) else (if a0 = 8115 then (some (945, 837, 2)) else (if a0 = 8486 then (some (937, 0, 1)) else (if a0 = 8490 then (some (75, 0, 1)) else (if a0 = 8491 then (some (197, 0, 1)) else (if a0 = 8800 then (some (61, 824, 2)) else (if a0 = 12364 then (some (12363, 12441, 2)) else (if a0 = 12497 then (some (12495, 12442, 2)) else (some (0, 0, 0))))))))))))))))))))))))))))))))
set_option maxHeartbeats 8000000 in
set_option maxRecDepth 100000 in
theorem tremaref02_few.calls (a0 : Int) (r1 : Int) (r2 : Int) (r3 : Int) (w : World) (h : tremaref02_few.f a0 = some (r1, r2, r3)) :
  Calls Tryd.prog 40 #[.int .i32 a0] w fun e w' => e = .returned (.tuple #[.int .i32 r1, .int .i32 r2, .int .i64 r3]) ∧ Drawn0 w w' := by
 have H : (if a0 = 469 then (some (220, 772, 2)) else (if a0 = 470 then (some (252, 772, 2)) else (if a0 = 832 then (some (768, 0, 1)) else (if a0 = 833 then (some (769, 0, 1)) else (if a0 = 835 then (some (787, 0, 1)) else (if a0 = 836 then (some (776, 769, 2)) else (if a0 = 902 then (some (913, 769, 2)) else (if a0 = 912 then (some (970, 769, 2)) else (if a0 = 940 then (some (945, 769, 2)) else (if a0 = 943 then (some (953, 769, 2)) else (if a0 = 970 then (some (953, 776, 2)) else (if a0 = 972 then (some (959, 769, 2)) else (if a0 = 7691 then (some (100, 775, 2)) else (if a0 = 7693 then (some (100, 803, 2)) else (if a0 = 7777 then (some (115, 775, 2)) else (if a0 = 7779 then (some (115, 803, 2)) else (if a0 = 7785 then (some (7779, 775, 2)) else (if a0 = 7841 then (some (97, 803, 2)) else (if a0 = 7844 then (some (194, 769, 2)) else (if a0 = 7845 then (some (226, 769, 2)) else (if a0 = 7863 then (some (7841, 774, 2)) else (if a0 = 7865 then (some (101, 803, 2)) else (if a0 = 7879 then (some (7865, 770, 2)) else (if a0 = 8049 then (some (940, 0, 1)) else (if a0 = 8115 then (some (945, 837, 2)) else (if a0 = 8486 then (some (937, 0, 1)) else (if a0 = 8490 then (some (75, 0, 1)) else (if a0 = 8491 then (some (197, 0, 1)) else (if a0 = 8800 then (some (61, 824, 2)) else (if a0 = 12364 then (some (12363, 12441, 2)) else (if a0 = 12497 then (some (12495, 12442, 2)) else (some (0, 0, 0))))))))))))))))))))))))))))))))) = some (r1, r2, r3) := h
 clear h
 by_cases c2 : a0 = 469
 ·rw [if_pos c2] at H
  have c2b0 : (a0 == 469) = true := beq_iff_eq.mpr c2
  have c2b1 : (a0 != 469) = false := bne_eq_false_iff_eq.mpr c2
  clear c2
  simp only [Option.some.injEq, Prod.mk.injEq] at H
  obtain ⟨rfl, rfl, rfl⟩ := H
  go_enter Tryd.func40, Tryd.ntmps40
  go_wp2
  go_ret3
  exact ⟨by first | rfl | (simp; done) | (simp [*]; done), by repeat (first | exact Drawn0.refl _ | apply Drawn0.step)⟩
 ·rw [if_neg c2] at H
  have c2b0 : (a0 == 469) = false := beq_eq_false_iff_ne.mpr c2
  have c2b1 : (a0 != 469) = true := bne_iff_ne.mpr c2
  by_cases c3 : a0 = 470
  ·rw [if_pos c3] at H
   have c3b0 : (a0 == 470) = true := beq_iff_eq.mpr c3
   have c3b1 : (a0 != 470) = false := bne_eq_false_iff_eq.mpr c3
   clear c3
   simp only [Option.some.injEq, Prod.mk.injEq] at H
   obtain ⟨rfl, rfl, rfl⟩ := H
   go_enter Tryd.func40, Tryd.ntmps40
   go_wp2
   go_ret3
   exact ⟨by first | rfl | (simp; done) | (simp [*]; done), by repeat (first | exact Drawn0.refl _ | apply Drawn0.step)⟩
  ·rw [if_neg c3] at H
   have c3b0 : (a0 == 470) = false := beq_eq_false_iff_ne.mpr c3
   have c3b1 : (a0 != 470) = true := bne_iff_ne.mpr c3
   by_cases c4 : a0 = 832
   ·rw [if_pos c4] at H
    have c4b0 : (a0 == 832) = true := beq_iff_eq.mpr c4
    have c4b1 : (a0 != 832) = false := bne_eq_false_iff_eq.mpr c4
    clear c4
    simp only [Option.some.injEq, Prod.mk.injEq] at H
    obtain ⟨rfl, rfl, rfl⟩ := H
    go_enter Tryd.func40, Tryd.ntmps40
    go_wp2
    go_ret3
    exact ⟨by first | rfl | (simp; done) | (simp [*]; done), by repeat (first | exact Drawn0.refl _ | apply Drawn0.step)⟩
   ·rw [if_neg c4] at H
    have c4b0 : (a0 == 832) = false := beq_eq_false_iff_ne.mpr c4
    have c4b1 : (a0 != 832) = true := bne_iff_ne.mpr c4
    by_cases c5 : a0 = 833
    ·rw [if_pos c5] at H
     have c5b0 : (a0 == 833) = true := beq_iff_eq.mpr c5
     have c5b1 : (a0 != 833) = false := bne_eq_false_iff_eq.mpr c5
     clear c5
     simp only [Option.some.injEq, Prod.mk.injEq] at H
     obtain ⟨rfl, rfl, rfl⟩ := H
     go_enter Tryd.func40, Tryd.ntmps40
     go_wp2
     go_ret3
     exact ⟨by first | rfl | (simp; done) | (simp [*]; done), by repeat (first | exact Drawn0.refl _ | apply Drawn0.step)⟩
    ·rw [if_neg c5] at H
     have c5b0 : (a0 == 833) = false := beq_eq_false_iff_ne.mpr c5
     have c5b1 : (a0 != 833) = true := bne_iff_ne.mpr c5
     by_cases c6 : a0 = 835
     ·rw [if_pos c6] at H
      have c6b0 : (a0 == 835) = true := beq_iff_eq.mpr c6
      have c6b1 : (a0 != 835) = false := bne_eq_false_iff_eq.mpr c6
      clear c6
      simp only [Option.some.injEq, Prod.mk.injEq] at H
      obtain ⟨rfl, rfl, rfl⟩ := H
      go_enter Tryd.func40, Tryd.ntmps40
      go_wp2
      go_ret3
      exact ⟨by first | rfl | (simp; done) | (simp [*]; done), by repeat (first | exact Drawn0.refl _ | apply Drawn0.step)⟩
     ·rw [if_neg c6] at H
      have c6b0 : (a0 == 835) = false := beq_eq_false_iff_ne.mpr c6
      have c6b1 : (a0 != 835) = true := bne_iff_ne.mpr c6
      by_cases c7 : a0 = 836
      ·rw [if_pos c7] at H
       have c7b0 : (a0 == 836) = true := beq_iff_eq.mpr c7
       have c7b1 : (a0 != 836) = false := bne_eq_false_iff_eq.mpr c7
       clear c7
       simp only [Option.some.injEq, Prod.mk.injEq] at H
       obtain ⟨rfl, rfl, rfl⟩ := H
       go_enter Tryd.func40, Tryd.ntmps40
       go_wp2
       go_ret3
       exact ⟨by first | rfl | (simp; done) | (simp [*]; done), by repeat (first | exact Drawn0.refl _ | apply Drawn0.step)⟩
      ·rw [if_neg c7] at H
       have c7b0 : (a0 == 836) = false := beq_eq_false_iff_ne.mpr c7
       have c7b1 : (a0 != 836) = true := bne_iff_ne.mpr c7
       by_cases c8 : a0 = 902
       ·rw [if_pos c8] at H
        have c8b0 : (a0 == 902) = true := beq_iff_eq.mpr c8
        have c8b1 : (a0 != 902) = false := bne_eq_false_iff_eq.mpr c8
        clear c8
        simp only [Option.some.injEq, Prod.mk.injEq] at H
        obtain ⟨rfl, rfl, rfl⟩ := H
        go_enter Tryd.func40, Tryd.ntmps40
        go_wp2
        go_ret3
        exact ⟨by first | rfl | (simp; done) | (simp [*]; done), by repeat (first | exact Drawn0.refl _ | apply Drawn0.step)⟩
       ·rw [if_neg c8] at H
        have c8b0 : (a0 == 902) = false := beq_eq_false_iff_ne.mpr c8
        have c8b1 : (a0 != 902) = true := bne_iff_ne.mpr c8
        by_cases c9 : a0 = 912
        ·rw [if_pos c9] at H
         have c9b0 : (a0 == 912) = true := beq_iff_eq.mpr c9
         have c9b1 : (a0 != 912) = false := bne_eq_false_iff_eq.mpr c9
         clear c9
         simp only [Option.some.injEq, Prod.mk.injEq] at H
         obtain ⟨rfl, rfl, rfl⟩ := H
         go_enter Tryd.func40, Tryd.ntmps40
         go_wp2
         go_ret3
         exact ⟨by first | rfl | (simp; done) | (simp [*]; done), by repeat (first | exact Drawn0.refl _ | apply Drawn0.step)⟩
        ·rw [if_neg c9] at H
         have c9b0 : (a0 == 912) = false := beq_eq_false_iff_ne.mpr c9
         have c9b1 : (a0 != 912) = true := bne_iff_ne.mpr c9
         by_cases c10 : a0 = 940
         ·rw [if_pos c10] at H
          have c10b0 : (a0 == 940) = true := beq_iff_eq.mpr c10
          have c10b1 : (a0 != 940) = false := bne_eq_false_iff_eq.mpr c10
          clear c10
          simp only [Option.some.injEq, Prod.mk.injEq] at H
          obtain ⟨rfl, rfl, rfl⟩ := H
          go_enter Tryd.func40, Tryd.ntmps40
          go_wp2
          go_ret3
          exact ⟨by first | rfl | (simp; done) | (simp [*]; done), by repeat (first | exact Drawn0.refl _ | apply Drawn0.step)⟩
         ·rw [if_neg c10] at H
          have c10b0 : (a0 == 940) = false := beq_eq_false_iff_ne.mpr c10
          have c10b1 : (a0 != 940) = true := bne_iff_ne.mpr c10
          by_cases c11 : a0 = 943
          ·rw [if_pos c11] at H
           have c11b0 : (a0 == 943) = true := beq_iff_eq.mpr c11
           have c11b1 : (a0 != 943) = false := bne_eq_false_iff_eq.mpr c11
           clear c11
           simp only [Option.some.injEq, Prod.mk.injEq] at H
           obtain ⟨rfl, rfl, rfl⟩ := H
           go_enter Tryd.func40, Tryd.ntmps40
           go_wp2
           go_ret3
           exact ⟨by first | rfl | (simp; done) | (simp [*]; done), by repeat (first | exact Drawn0.refl _ | apply Drawn0.step)⟩
          ·rw [if_neg c11] at H
           have c11b0 : (a0 == 943) = false := beq_eq_false_iff_ne.mpr c11
           have c11b1 : (a0 != 943) = true := bne_iff_ne.mpr c11
           by_cases c12 : a0 = 970
           ·rw [if_pos c12] at H
            have c12b0 : (a0 == 970) = true := beq_iff_eq.mpr c12
            have c12b1 : (a0 != 970) = false := bne_eq_false_iff_eq.mpr c12
            clear c12
            simp only [Option.some.injEq, Prod.mk.injEq] at H
            obtain ⟨rfl, rfl, rfl⟩ := H
            go_enter Tryd.func40, Tryd.ntmps40
            go_wp2
            go_ret3
            exact ⟨by first | rfl | (simp; done) | (simp [*]; done), by repeat (first | exact Drawn0.refl _ | apply Drawn0.step)⟩
           ·rw [if_neg c12] at H
            have c12b0 : (a0 == 970) = false := beq_eq_false_iff_ne.mpr c12
            have c12b1 : (a0 != 970) = true := bne_iff_ne.mpr c12
            by_cases c13 : a0 = 972
            ·rw [if_pos c13] at H
             have c13b0 : (a0 == 972) = true := beq_iff_eq.mpr c13
             have c13b1 : (a0 != 972) = false := bne_eq_false_iff_eq.mpr c13
             clear c13
             simp only [Option.some.injEq, Prod.mk.injEq] at H
             obtain ⟨rfl, rfl, rfl⟩ := H
             go_enter Tryd.func40, Tryd.ntmps40
             go_wp2
             go_ret3
             exact ⟨by first | rfl | (simp; done) | (simp [*]; done), by repeat (first | exact Drawn0.refl _ | apply Drawn0.step)⟩
            ·rw [if_neg c13] at H
             have c13b0 : (a0 == 972) = false := beq_eq_false_iff_ne.mpr c13
             have c13b1 : (a0 != 972) = true := bne_iff_ne.mpr c13
             by_cases c14 : a0 = 7691
             ·rw [if_pos c14] at H
              have c14b0 : (a0 == 7691) = true := beq_iff_eq.mpr c14
              have c14b1 : (a0 != 7691) = false := bne_eq_false_iff_eq.mpr c14
              clear c14
              simp only [Option.some.injEq, Prod.mk.injEq] at H
              obtain ⟨rfl, rfl, rfl⟩ := H
              go_enter Tryd.func40, Tryd.ntmps40
              go_wp2
              go_ret3
              exact ⟨by first | rfl | (simp; done) | (simp [*]; done), by repeat (first | exact Drawn0.refl _ | apply Drawn0.step)⟩
             ·rw [if_neg c14] at H
              have c14b0 : (a0 == 7691) = false := beq_eq_false_iff_ne.mpr c14
              have c14b1 : (a0 != 7691) = true := bne_iff_ne.mpr c14
              by_cases c15 : a0 = 7693
              ·rw [if_pos c15] at H
               have c15b0 : (a0 == 7693) = true := beq_iff_eq.mpr c15
               have c15b1 : (a0 != 7693) = false := bne_eq_false_iff_eq.mpr c15
               clear c15
               simp only [Option.some.injEq, Prod.mk.injEq] at H
               obtain ⟨rfl, rfl, rfl⟩ := H
               go_enter Tryd.func40, Tryd.ntmps40
               go_wp2
               go_ret3
               exact ⟨by first | rfl | (simp; done) | (simp [*]; done), by repeat (first | exact Drawn0.refl _ | apply Drawn0.step)⟩
              ·rw [if_neg c15] at H
               have c15b0 : (a0 == 7693) = false := beq_eq_false_iff_ne.mpr c15
               have c15b1 : (a0 != 7693) = true := bne_iff_ne.mpr c15
               by_cases c16 : a0 = 7777
               ·rw [if_pos c16] at H
                have c16b0 : (a0 == 7777) = true := beq_iff_eq.mpr c16
                have c16b1 : (a0 != 7777) = false := bne_eq_false_iff_eq.mpr c16
                clear c16
                simp only [Option.some.injEq, Prod.mk.injEq] at H
                obtain ⟨rfl, rfl, rfl⟩ := H
                go_enter Tryd.func40, Tryd.ntmps40
                go_wp2
                go_ret3
                exact ⟨by first | rfl | (simp; done) | (simp [*]; done), by repeat (first | exact Drawn0.refl _ | apply Drawn0.step)⟩
               ·rw [if_neg c16] at H
                have c16b0 : (a0 == 7777) = false := beq_eq_false_iff_ne.mpr c16
                have c16b1 : (a0 != 7777) = true := bne_iff_ne.mpr c16
                by_cases c17 : a0 = 7779
                ·rw [if_pos c17] at H
                 have c17b0 : (a0 == 7779) = true := beq_iff_eq.mpr c17
                 have c17b1 : (a0 != 7779) = false := bne_eq_false_iff_eq.mpr c17
                 clear c17
                 simp only [Option.some.injEq, Prod.mk.injEq] at H
                 obtain ⟨rfl, rfl, rfl⟩ := H
                 go_enter Tryd.func40, Tryd.ntmps40
                 go_wp2
                 go_ret3
                 exact ⟨by first | rfl | (simp; done) | (simp [*]; done), by repeat (first | exact Drawn0.refl _ | apply Drawn0.step)⟩
                ·rw [if_neg c17] at H
                 have c17b0 : (a0 == 7779) = false := beq_eq_false_iff_ne.mpr c17
                 have c17b1 : (a0 != 7779) = true := bne_iff_ne.mpr c17
                 by_cases c18 : a0 = 7785
                 ·rw [if_pos c18] at H
                  have c18b0 : (a0 == 7785) = true := beq_iff_eq.mpr c18
                  have c18b1 : (a0 != 7785) = false := bne_eq_false_iff_eq.mpr c18
                  clear c18
                  simp only [Option.some.injEq, Prod.mk.injEq] at H
                  obtain ⟨rfl, rfl, rfl⟩ := H
                  go_enter Tryd.func40, Tryd.ntmps40
                  go_wp2
                  go_ret3
                  exact ⟨by first | rfl | (simp; done) | (simp [*]; done), by repeat (first | exact Drawn0.refl _ | apply Drawn0.step)⟩
                 ·rw [if_neg c18] at H
                  have c18b0 : (a0 == 7785) = false := beq_eq_false_iff_ne.mpr c18
                  have c18b1 : (a0 != 7785) = true := bne_iff_ne.mpr c18
                  by_cases c19 : a0 = 7841
                  ·rw [if_pos c19] at H
                   have c19b0 : (a0 == 7841) = true := beq_iff_eq.mpr c19
                   have c19b1 : (a0 != 7841) = false := bne_eq_false_iff_eq.mpr c19
                   clear c19
                   simp only [Option.some.injEq, Prod.mk.injEq] at H
                   obtain ⟨rfl, rfl, rfl⟩ := H
                   go_enter Tryd.func40, Tryd.ntmps40
                   go_wp2
                   go_ret3
                   exact ⟨by first | rfl | (simp; done) | (simp [*]; done), by repeat (first | exact Drawn0.refl _ | apply Drawn0.step)⟩
                  ·rw [if_neg c19] at H
                   have c19b0 : (a0 == 7841) = false := beq_eq_false_iff_ne.mpr c19
                   have c19b1 : (a0 != 7841) = true := bne_iff_ne.mpr c19
                   by_cases c20 : a0 = 7844
                   ·rw [if_pos c20] at H
                    have c20b0 : (a0 == 7844) = true := beq_iff_eq.mpr c20
                    have c20b1 : (a0 != 7844) = false := bne_eq_false_iff_eq.mpr c20
                    clear c20
                    simp only [Option.some.injEq, Prod.mk.injEq] at H
                    obtain ⟨rfl, rfl, rfl⟩ := H
                    go_enter Tryd.func40, Tryd.ntmps40
                    go_wp2
                    go_ret3
                    exact ⟨by first | rfl | (simp; done) | (simp [*]; done), by repeat (first | exact Drawn0.refl _ | apply Drawn0.step)⟩
                   ·rw [if_neg c20] at H
                    have c20b0 : (a0 == 7844) = false := beq_eq_false_iff_ne.mpr c20
                    have c20b1 : (a0 != 7844) = true := bne_iff_ne.mpr c20
                    by_cases c21 : a0 = 7845
                    ·rw [if_pos c21] at H
                     have c21b0 : (a0 == 7845) = true := beq_iff_eq.mpr c21
                     have c21b1 : (a0 != 7845) = false := bne_eq_false_iff_eq.mpr c21
                     clear c21
                     simp only [Option.some.injEq, Prod.mk.injEq] at H
                     obtain ⟨rfl, rfl, rfl⟩ := H
                     go_enter Tryd.func40, Tryd.ntmps40
                     go_wp2
                     go_ret3
                     exact ⟨by first | rfl | (simp; done) | (simp [*]; done), by repeat (first | exact Drawn0.refl _ | apply Drawn0.step)⟩
                    ·rw [if_neg c21] at H
                     have c21b0 : (a0 == 7845) = false := beq_eq_false_iff_ne.mpr c21
                     have c21b1 : (a0 != 7845) = true := bne_iff_ne.mpr c21
                     by_cases c22 : a0 = 7863
                     ·rw [if_pos c22] at H
                      have c22b0 : (a0 == 7863) = true := beq_iff_eq.mpr c22
                      have c22b1 : (a0 != 7863) = false := bne_eq_false_iff_eq.mpr c22
                      clear c22
                      simp only [Option.some.injEq, Prod.mk.injEq] at H
                      obtain ⟨rfl, rfl, rfl⟩ := H
                      go_enter Tryd.func40, Tryd.ntmps40
                      go_wp2
                      go_ret3
                      exact ⟨by first | rfl | (simp; done) | (simp [*]; done), by repeat (first | exact Drawn0.refl _ | apply Drawn0.step)⟩
                     ·rw [if_neg c22] at H
                      have c22b0 : (a0 == 7863) = false := beq_eq_false_iff_ne.mpr c22
                      have c22b1 : (a0 != 7863) = true := bne_iff_ne.mpr c22
                      by_cases c23 : a0 = 7865
                      ·rw [if_pos c23] at H
                       have c23b0 : (a0 == 7865) = true := beq_iff_eq.mpr c23
                       have c23b1 : (a0 != 7865) = false := bne_eq_false_iff_eq.mpr c23
                       clear c23
                       simp only [Option.some.injEq, Prod.mk.injEq] at H
                       obtain ⟨rfl, rfl, rfl⟩ := H
                       go_enter Tryd.func40, Tryd.ntmps40
                       go_wp2
                       go_ret3
                       exact ⟨by first | rfl | (simp; done) | (simp [*]; done), by repeat (first | exact Drawn0.refl _ | apply Drawn0.step)⟩
                      ·rw [if_neg c23] at H
                       have c23b0 : (a0 == 7865) = false := beq_eq_false_iff_ne.mpr c23
                       have c23b1 : (a0 != 7865) = true := bne_iff_ne.mpr c23
                       by_cases c24 : a0 = 7879
                       ·rw [if_pos c24] at H
                        have c24b0 : (a0 == 7879) = true := beq_iff_eq.mpr c24
                        have c24b1 : (a0 != 7879) = false := bne_eq_false_iff_eq.mpr c24
                        clear c24
                        simp only [Option.some.injEq, Prod.mk.injEq] at H
                        obtain ⟨rfl, rfl, rfl⟩ := H
                        go_enter Tryd.func40, Tryd.ntmps40
                        go_wp2
                        go_ret3
                        exact ⟨by first | rfl | (simp; done) | (simp [*]; done), by repeat (first | exact Drawn0.refl _ | apply Drawn0.step)⟩
                       ·rw [if_neg c24] at H
                        have c24b0 : (a0 == 7879) = false := beq_eq_false_iff_ne.mpr c24
                        have c24b1 : (a0 != 7879) = true := bne_iff_ne.mpr c24
                        by_cases c25 : a0 = 8049
                        ·rw [if_pos c25] at H
                         have c25b0 : (a0 == 8049) = true := beq_iff_eq.mpr c25
                         have c25b1 : (a0 != 8049) = false := bne_eq_false_iff_eq.mpr c25
                         clear c25
                         simp only [Option.some.injEq, Prod.mk.injEq] at H
                         obtain ⟨rfl, rfl, rfl⟩ := H
                         go_enter Tryd.func40, Tryd.ntmps40
                         go_wp2
                         go_ret3
                         exact ⟨by first | rfl | (simp; done) | (simp [*]; done), by repeat (first | exact Drawn0.refl _ | apply Drawn0.step)⟩
                        ·rw [if_neg c25] at H
                         have c25b0 : (a0 == 8049) = false := beq_eq_false_iff_ne.mpr c25
                         have c25b1 : (a0 != 8049) = true := bne_iff_ne.mpr c25
                         by_cases c26 : a0 = 8115
                         ·rw [if_pos c26] at H
                          have c26b0 : (a0 == 8115) = true := beq_iff_eq.mpr c26
                          have c26b1 : (a0 != 8115) = false := bne_eq_false_iff_eq.mpr c26
                          clear c26
                          simp only [Option.some.injEq, Prod.mk.injEq] at H
                          obtain ⟨rfl, rfl, rfl⟩ := H
                          go_enter Tryd.func40, Tryd.ntmps40
                          go_wp2
                          go_ret3
                          exact ⟨by first | rfl | (simp; done) | (simp [*]; done), by repeat (first | exact Drawn0.refl _ | apply Drawn0.step)⟩
                         ·rw [if_neg c26] at H
                          have c26b0 : (a0 == 8115) = false := beq_eq_false_iff_ne.mpr c26
                          have c26b1 : (a0 != 8115) = true := bne_iff_ne.mpr c26
                          by_cases c27 : a0 = 8486
                          ·rw [if_pos c27] at H
                           have c27b0 : (a0 == 8486) = true := beq_iff_eq.mpr c27
                           have c27b1 : (a0 != 8486) = false := bne_eq_false_iff_eq.mpr c27
                           clear c27
                           simp only [Option.some.injEq, Prod.mk.injEq] at H
                           obtain ⟨rfl, rfl, rfl⟩ := H
                           go_enter Tryd.func40, Tryd.ntmps40
                           go_wp2
                           go_ret3
                           exact ⟨by first | rfl | (simp; done) | (simp [*]; done), by repeat (first | exact Drawn0.refl _ | apply Drawn0.step)⟩
                          ·rw [if_neg c27] at H
                           have c27b0 : (a0 == 8486) = false := beq_eq_false_iff_ne.mpr c27
                           have c27b1 : (a0 != 8486) = true := bne_iff_ne.mpr c27
                           by_cases c28 : a0 = 8490
                           ·rw [if_pos c28] at H
                            have c28b0 : (a0 == 8490) = true := beq_iff_eq.mpr c28
                            have c28b1 : (a0 != 8490) = false := bne_eq_false_iff_eq.mpr c28
                            clear c28
                            simp only [Option.some.injEq, Prod.mk.injEq] at H
                            obtain ⟨rfl, rfl, rfl⟩ := H
                            go_enter Tryd.func40, Tryd.ntmps40
                            go_wp2
                            go_ret3
                            exact ⟨by first | rfl | (simp; done) | (simp [*]; done), by repeat (first | exact Drawn0.refl _ | apply Drawn0.step)⟩
                           ·rw [if_neg c28] at H
                            have c28b0 : (a0 == 8490) = false := beq_eq_false_iff_ne.mpr c28
                            have c28b1 : (a0 != 8490) = true := bne_iff_ne.mpr c28
                            by_cases c29 : a0 = 8491
                            ·rw [if_pos c29] at H
                             have c29b0 : (a0 == 8491) = true := beq_iff_eq.mpr c29
                             have c29b1 : (a0 != 8491) = false := bne_eq_false_iff_eq.mpr c29
                             clear c29
                             simp only [Option.some.injEq, Prod.mk.injEq] at H
                             obtain ⟨rfl, rfl, rfl⟩ := H
                             go_enter Tryd.func40, Tryd.ntmps40
                             go_wp2
                             go_ret3
                             exact ⟨by first | rfl | (simp; done) | (simp [*]; done), by repeat (first | exact Drawn0.refl _ | apply Drawn0.step)⟩
                            ·rw [if_neg c29] at H
                             have c29b0 : (a0 == 8491) = false := beq_eq_false_iff_ne.mpr c29
                             have c29b1 : (a0 != 8491) = true := bne_iff_ne.mpr c29
                             by_cases c30 : a0 = 8800
                             ·rw [if_pos c30] at H
                              have c30b0 : (a0 == 8800) = true := beq_iff_eq.mpr c30
                              have c30b1 : (a0 != 8800) = false := bne_eq_false_iff_eq.mpr c30
                              clear c30
                              simp only [Option.some.injEq, Prod.mk.injEq] at H
                              obtain ⟨rfl, rfl, rfl⟩ := H
                              go_enter Tryd.func40, Tryd.ntmps40
                              go_wp2
                              go_ret3
                              exact ⟨by first | rfl | (simp; done) | (simp [*]; done), by repeat (first | exact Drawn0.refl _ | apply Drawn0.step)⟩
                             ·rw [if_neg c30] at H
                              have c30b0 : (a0 == 8800) = false := beq_eq_false_iff_ne.mpr c30
                              have c30b1 : (a0 != 8800) = true := bne_iff_ne.mpr c30
                              by_cases c31 : a0 = 12364
                              ·rw [if_pos c31] at H
                               have c31b0 : (a0 == 12364) = true := beq_iff_eq.mpr c31
                               have c31b1 : (a0 != 12364) = false := bne_eq_false_iff_eq.mpr c31
                               clear c31
                               simp only [Option.some.injEq, Prod.mk.injEq] at H
                               obtain ⟨rfl, rfl, rfl⟩ := H
                               go_enter Tryd.func40, Tryd.ntmps40
                               go_wp2
                               go_ret3
                               exact ⟨by first | rfl | (simp; done) | (simp [*]; done), by repeat (first | exact Drawn0.refl _ | apply Drawn0.step)⟩
                              ·rw [if_neg c31] at H
                               have c31b0 : (a0 == 12364) = false := beq_eq_false_iff_ne.mpr c31
                               have c31b1 : (a0 != 12364) = true := bne_iff_ne.mpr c31
                               by_cases c32 : a0 = 12497
                               ·rw [if_pos c32] at H
                                have c32b0 : (a0 == 12497) = true := beq_iff_eq.mpr c32
                                have c32b1 : (a0 != 12497) = false := bne_eq_false_iff_eq.mpr c32
                                clear c32
                                simp only [Option.some.injEq, Prod.mk.injEq] at H
                                obtain ⟨rfl, rfl, rfl⟩ := H
                                go_enter Tryd.func40, Tryd.ntmps40
                                go_wp2
                                go_ret3
                                exact ⟨by first | rfl | (simp; done) | (simp [*]; done), by repeat (first | exact Drawn0.refl _ | apply Drawn0.step)⟩
                               ·rw [if_neg c32] at H
                                have c32b0 : (a0 == 12497) = false := beq_eq_false_iff_ne.mpr c32
                                have c32b1 : (a0 != 12497) = true := bne_iff_ne.mpr c32
                                simp only [Option.some.injEq, Prod.mk.injEq] at H
                                obtain ⟨rfl, rfl, rfl⟩ := H
                                go_enter Tryd.func40, Tryd.ntmps40
                                go_wp2
                                go_ret3
                                exact ⟨by first | rfl | (simp; done) | (simp [*]; done), by repeat (first | exact Drawn0.refl _ | apply Drawn0.step)⟩

end Go.Proofs.YtfiihlgigeijcaaDoor.X
