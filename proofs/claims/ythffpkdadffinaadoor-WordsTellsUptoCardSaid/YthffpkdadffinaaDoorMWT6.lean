/-
  Several texts of this claim in one: what its law's proof uses.
-/
import Derived.Test.YthffpkdadffinaaDoorMWT5
import Derived.Test.YthffpkdadffinaaDoorMWT2
import Derived.Test.YthffpkdadffinaaDoorMWT3
import Derived.WalkSpells
import Derived.Laws.RangeString
namespace Go.Proofs.YthffpkdadffinaaDoor.Vp0
set_option linter.unusedVariables false
set_option linter.unusedSimpArgs false
open Go.RowKit YthffpkdadffinaaDoorW.PrintWords Ev0 X Va Vc Vd Ve
def I32 (x : Int) : Prop := -2147483648 ≤ x ∧ x ≤ 2147483647
theorem dec_zero (r : Int) (h : pairU r = (0, 0, 0)) : decU r = [r] := decF_zero 4 r h
theorem opn_zero (r : Int) (h : pairU r = (0, 0, 0)) : opn r = ((cls r == 0) && !trl r) := by unfold opn; rw [dec_zero r h]; rfl
def botB (r : Int) : Bool := decide (1 ≤ (decU r).length ∧ (decU r).length ≤ 3) && (decU r).all (fun x => decide ((pairU x) = (0, 0, 0)) && decide (0 ≤ x ∧ x < 65536)) && ((decU r).drop 1).all (fun x => !opn x)
theorem bot_keys : ∀ r ∈ keys, botB r = true := by decide +kernel
theorem jamo_shut (r : Int) (h : 4449 ≤ r ∧ r ≤ 4469 ∨ 4520 ≤ r ∧ r ≤ 4546) : opn r = false := by
  rw [opn_zero r (jamo_zero r (by omega))]; (have : trl r = true := by unfold trl; exact decide_eq_true h); rw [this]; simp
theorem syl_dec (s : Nat) (hs : s ≤ 11171) : decU (44032 + (s : Int)) = [4352 + ((s / 588 : Nat) : Int), 4449 + ((s % 588 / 28 : Nat) : Int)] ++ if s % 28 = 0 then [] else [4519 + ((s % 28 : Nat) : Int)] := (syl_all s hs 2).2
structure Bot (r : Int) : Prop where
  lo : 1 ≤ (decU r).length
  hi : (decU r).length ≤ 3
  zero : ∀ x ∈ decU r, pairU x = (0, 0, 0)
  rng : ∀ x ∈ decU r, I32 x
  shut : ∀ x ∈ (decU r).drop 1, opn x = false
theorem bottom (r : Int) (hr : I32 r) : Bot r := by
  rcases cases3 r with h | ⟨s, hs, rfl⟩ | h
  · have := bot_keys r h; simp only [botB, Bool.and_eq_true, decide_eq_true_eq, List.all_eq_true, Bool.not_eq_true'] at this; obtain ⟨⟨⟨h1, h2⟩, h3⟩, h4⟩ := this; exact ⟨h1, h2, fun x hx => (h3 x hx).1, fun x hx => by have := (h3 x hx).2; unfold I32; omega, h4⟩
  · have hd := syl_dec s hs; have z1 := jamo_zero (4352 + ((s / 588 : Nat) : Int)) (by omega); have z2 := jamo_zero (4449 + ((s % 588 / 28 : Nat) : Int)) (by omega); have z3 := jamo_zero (4519 + ((s % 28 : Nat) : Int)) (by omega); by_cases ht : s % 28 = 0
    · rw [if_pos ht, List.append_nil] at hd; refine ⟨by rw [hd]; simp, by rw [hd]; simp, ?_, ?_, ?_⟩
      · rw [hd]; intro x hx; simp at hx; rcases hx with rfl | rfl; exact z1; exact z2
      · rw [hd]; intro x hx; simp at hx; unfold I32; rcases hx with rfl | rfl <;> omega
      · rw [hd]; intro x hx; simp at hx; subst hx; exact jamo_shut _ (by omega)
    · rw [if_neg ht] at hd; refine ⟨by rw [hd]; simp, by rw [hd]; simp, ?_, ?_, ?_⟩
      · rw [hd]; intro x hx; simp at hx; rcases hx with rfl | rfl | rfl; exact z1; exact z2; exact z3
      · rw [hd]; intro x hx; simp at hx; unfold I32; rcases hx with rfl | rfl | rfl <;> omega
      · rw [hd]; intro x hx; simp at hx; rcases hx with rfl | rfl <;> exact jamo_shut _ (by omega)
  · have hd := dec_zero r h; refine ⟨by rw [hd]; simp, by rw [hd]; simp, ?_, ?_, ?_⟩
    · rw [hd]; intro x hx; simp at hx; subst hx; exact h
    · rw [hd]; intro x hx; simp at hx; subst hx; exact hr
    · rw [hd]; simp
theorem opn_first (r : Int) (hr : I32 r) : opn ((decU r).getD 0 0) = opn r := by
  have hb := bottom r hr
  have hm : (decU r).getD 0 0 ∈ decU r := by
    have := hb.lo; rw [List.getD_eq_getElem?_getD, List.getElem?_eq_getElem (by omega)]; exact List.getElem_mem _
  rw [opn_zero _ (hb.zero _ hm)]
  rfl
end Go.Proofs.YthffpkdadffinaaDoor.Vp0
namespace Go.Proofs.YthffpkdadffinaaDoor.X
open Go.RowKit YthffpkdadffinaaDoorW.PrintWords YthffpkdadffinaaDoorW.PrintLast YthffpkdadffinaaDoorW.PrintMore
attribute [local go_sem] max2_int min2_int max_two min_two max_three min_three max_four min_four   
set_option linter.unusedVariables false
set_option linter.unusedSimpArgs false
def tremaref02_in.f (a0 : Int) (a1 : Int) (a2 : Int) : Option (Bool) := if a1 ≤ a0 then (some (decide (a0 ≤ a2))) else (some false)
set_option maxHeartbeats 8000000 in
set_option maxRecDepth 100000 in
theorem tremaref02_in.calls (a0 : Int) (a1 : Int) (a2 : Int) (r : Bool) (w : World) (h : tremaref02_in.f a0 a1 a2 = some r) :
  Calls Tryd.prog 88 #[.int .i32 a0, .int .i32 a1, .int .i32 a2] w fun e w' => e = .returned (.bool r) ∧ Drawn0 w w' := by
 have H : (if a1 ≤ a0 then (some (decide (a0 ≤ a2))) else (some false)) = some r := h; clear h; by_cases c4 : a1 ≤ a0
 ·rw [if_pos c4] at H; have c4b0 : decide (a1 ≤ a0) = true := decide_eq_true c4; clear c4; obtain rfl := Option.some.inj H; go_enter Tryd.func88, Tryd.ntmps88; go_wp2; go_ret; exact ⟨by first | rfl | (simp; done) | (simp [*]; done), by repeat (first | exact Drawn0.refl _ | apply Drawn0.step)⟩
 ·rw [if_neg c4] at H; have c4b0 : decide (a1 ≤ a0) = false := decide_eq_false c4; clear c4; obtain rfl := Option.some.inj H; go_enter Tryd.func88, Tryd.ntmps88; go_wp2; go_ret; exact ⟨by first | rfl | (simp; done) | (simp [*]; done), by repeat (first | exact Drawn0.refl _ | apply Drawn0.step)⟩
end Go.Proofs.YthffpkdadffinaaDoor.X
namespace Go.Proofs.YthffpkdadffinaaDoor.Vin
set_option linter.unusedVariables false
set_option linter.unusedSimpArgs false
open Go.RowKit YthffpkdadffinaaDoorW.PrintWords Hp X
def inB (r lo hi : Int) : Bool := decide (lo ≤ r) && decide (r ≤ hi)
theorem in_some (r lo hi : Int) : tremaref02_in.f r lo hi = some (inB r lo hi) := by
  unfold tremaref02_in.f inB; by_cases h : lo ≤ r
  · rw [if_pos h, decide_eq_true h]; simp
  · rw [if_neg h, decide_eq_false h]; rfl
theorem InQ {w w0 : World} (r lo hi : Int) (h : Drawn0 w w0) : Calls Tryd.prog 88 #[.int .i32 r, .int .i32 lo, .int .i32 hi] w0 fun e w' => e = .returned (.bool (inB r lo hi)) ∧ Drawn0 w w' :=
  (tremaref02_in.calls r lo hi _ w0 (in_some r lo hi)).mono fun _ _ ⟨h1, h2⟩ => ⟨h1, by obtain ⟨n, rfl⟩ := h2.out; exact h.step n⟩
def anyIn (r : Int) : List (Int × Int) → Bool
  | [] => false
  | p :: t => inB r p.1 p.2 || anyIn r t
def refG (r d : Int) : List (List (Int × Int) × Int) → Int
  | [] => d
  | q :: t => if anyIn r q.1 = true then q.2 else refG r d t
def AlikeB (B : List Int) (r x : Int) : Prop := ∀ b ∈ B, (b ≤ r ↔ b ≤ x)
theorem inB_of {r x lo hi : Int} (h1 : lo ≤ r ↔ lo ≤ x) (h2 : hi + 1 ≤ r ↔ hi + 1 ≤ x) : inB r lo hi = inB x lo hi := by
  unfold inB; congr 1
  · rw [decide_eq_decide]; omega
  · rw [decide_eq_decide]; omega
theorem anyIn_of {B : List Int} {r x : Int} (h : AlikeB B r x) : ∀ l : List (Int × Int), (∀ p ∈ l, p.1 ∈ B ∧ p.2 + 1 ∈ B) → anyIn r l = anyIn x l
  | [], _ => rfl
  | p :: t, hl => by
    have h1 := hl p (List.mem_cons_self ..); rw [anyIn, anyIn, inB_of (h _ h1.1) (h _ h1.2), anyIn_of h t fun q hq => hl q (List.mem_cons_of_mem _ hq)]
theorem refG_of {B : List Int} {r x : Int} (h : AlikeB B r x) (d : Int) : ∀ t : List (List (Int × Int) × Int), (∀ q ∈ t, ∀ p ∈ q.1, p.1 ∈ B ∧ p.2 + 1 ∈ B) → refG r d t = refG x d t
  | [], _ => rfl
  | q :: t, hl => by rw [refG, refG, anyIn_of h q.1 (hl q (List.mem_cons_self ..)), refG_of h d t fun q hq => hl q (List.mem_cons_of_mem _ hq)]
theorem rep0 (m r : Int) : ∀ B : List Int, (∀ b ∈ B, m < b) → ∃ x, x ∈ m :: B ∧ (∀ b ∈ B, (b ≤ r ↔ b ≤ x)) ∧ (x = m ∨ x ≤ r)
  | [], _ => ⟨m, List.mem_cons_self .., by simp, .inl rfl⟩
  | b :: B, h => by
    obtain ⟨x, h1, h2, h3⟩ := rep0 m r B (fun c hc => h c (List.mem_cons_of_mem _ hc)); have hb := h b (List.mem_cons_self ..); by_cases c1 : b ≤ r
    · by_cases c2 : x < b
      · refine ⟨b, by simp, fun c hc => ?_, .inr c1⟩; rcases List.mem_cons.1 hc with rfl | hc
        · exact ⟨fun _ => Int.le_refl _, fun _ => c1⟩
        · have := h2 c hc; omega
      · refine ⟨x, ?_, fun c hc => ?_, h3⟩
        · rcases List.mem_cons.1 h1 with rfl | h1 <;> simp [*]
        · rcases List.mem_cons.1 hc with rfl | hc
          · omega
          · exact h2 c hc
    · refine ⟨x, ?_, fun c hc => ?_, h3⟩
      · rcases List.mem_cons.1 h1 with rfl | h1 <;> simp [*]
      · rcases List.mem_cons.1 hc with rfl | hc
        · omega
        · exact h2 c hc
theorem rep (B : List Int) (r : Int) (h : ∀ b ∈ B, -1 < b) : ∃ x, x ∈ -1 :: B ∧ AlikeB B r x := by
  obtain ⟨x, h1, h2, -⟩ := rep0 (-1) r B h; exact ⟨x, h1, h2⟩
end Go.Proofs.YthffpkdadffinaaDoor.Vin
namespace Go.Proofs.YthffpkdadffinaaDoor.Vci
set_option linter.unusedVariables false
set_option linter.unusedSimpArgs false
open Go.RowKit YthffpkdadffinaaDoorW.PrintWords Hp X Vin
def g0 : List (Int × Int) := [(768, 788), (829, 836), (838, 838), (842, 844), (848, 850), (855, 855), (8400, 8401)]
def g1 : List (Int × Int) := [(789, 789), (794, 794)]
def g2 : List (Int × Int) := [(790, 793), (796, 800), (803, 806), (809, 819), (825, 828), (839, 841), (845, 846), (851, 854)]
def g3 : List (Int × Int) := [(795, 795)]
def g4 : List (Int × Int) := [(801, 802), (807, 808)]
def g5 : List (Int × Int) := [(820, 824)]
def g6 : List (Int × Int) := [(837, 837)]
def g7 : List (Int × Int) := [(12441, 12442)]
def refT : List (List (Int × Int) × Int) := [(g0, 230), (g1, 232), (g2, 220), (g3, 216), (g4, 202), (g5, 1), (g6, 240), (g7, 8)]
def refC (r : Int) : Int := refG r 0 refT
set_option maxRecDepth 100000 in
set_option maxHeartbeats 16000000 in
theorem refClass_walk (w : World) (r : Int) : Calls Tryd.prog 78 #[.int .i32 r] w fun e w' => e = .returned (.int .i64 (refC r)) ∧ Drawn0 w w' := by
  have HB := Aside0.mk (Drawn0.refl w); go_enter Tryd.func78, Tryd.ntmps78; go_upto_if 3 with (go_at_call 88; go_must (refine (InQ r _ _ HB.out).mono ?_; clear HB; rintro E w1 ⟨rfl, p1⟩; have HB := Aside0.mk p1; clear p1)); go_cut [3] (fun vq wq => vq = .bool (anyIn r g0) ∧ Aside0 (Drawn0 w wq))
  case first =>
    go_wp2_with (go_at_call 88; go_must (refine (InQ r _ _ HB.out).mono ?_; clear HB; rintro E w1 ⟨rfl, p1⟩; have HB := Aside0.mk p1; clear p1)); all_goals (go_meet; case rel => exact ⟨by simp [anyIn, g0, *], HB⟩)
  case rest =>
    obtain ⟨rfl, HB⟩ := hcut
    cases c0 : anyIn r g0 with
    | true =>
      have HV := Aside0.mk (show refC r = 230 by simp only [refC, refT, refG, c0, Bool.false_eq_true, if_false, if_true]); go_wp2; go_ret; exact ⟨by rw [HV.out]; rfl, HB.out⟩
    | false =>
      go_upto_if 20 with (go_at_call 88; go_must (refine (InQ r _ _ HB.out).mono ?_; clear HB; rintro E w1 ⟨rfl, p1⟩; have HB := Aside0.mk p1; clear p1)); go_cut [20] (fun vq wq => vq = .bool (anyIn r g1) ∧ Aside0 (Drawn0 w wq))
      case first =>
        go_wp2_with (go_at_call 88; go_must (refine (InQ r _ _ HB.out).mono ?_; clear HB; rintro E w1 ⟨rfl, p1⟩; have HB := Aside0.mk p1; clear p1)); all_goals (go_meet; case rel => exact ⟨by simp [anyIn, g1, *], HB⟩)
      case rest =>
        obtain ⟨rfl, HB⟩ := hcut
        cases c1 : anyIn r g1 with
        | true =>
          have HV := Aside0.mk (show refC r = 232 by simp only [refC, refT, refG, c0, c1, Bool.false_eq_true, if_false, if_true]); go_wp2; go_ret; exact ⟨by rw [HV.out]; rfl, HB.out⟩
        | false =>
          go_upto_if 25 with (go_at_call 88; go_must (refine (InQ r _ _ HB.out).mono ?_; clear HB; rintro E w1 ⟨rfl, p1⟩; have HB := Aside0.mk p1; clear p1)); go_cut [25] (fun vq wq => vq = .bool (anyIn r g2) ∧ Aside0 (Drawn0 w wq))
          case first =>
            go_wp2_with (go_at_call 88; go_must (refine (InQ r _ _ HB.out).mono ?_; clear HB; rintro E w1 ⟨rfl, p1⟩; have HB := Aside0.mk p1; clear p1)); all_goals (go_meet; case rel => exact ⟨by simp [anyIn, g2, *], HB⟩)
          case rest =>
            obtain ⟨rfl, HB⟩ := hcut
            cases c2 : anyIn r g2 with
            | true =>
              have HV := Aside0.mk (show refC r = 220 by simp only [refC, refT, refG, c0, c1, c2, Bool.false_eq_true, if_false, if_true]); go_wp2; go_ret; exact ⟨by rw [HV.out]; rfl, HB.out⟩
            | false =>
              go_upto_region 19 with (fail); go_cut [44] (fun vq wq => vq = .bool (anyIn r g3) ∧ Aside0 (Drawn0 w wq))
              case first =>
                go_wp2_with (go_at_call 88; go_must (refine (InQ r _ _ HB.out).mono ?_; clear HB; rintro E w1 ⟨rfl, p1⟩; have HB := Aside0.mk p1; clear p1)); all_goals (go_meet; case rel => exact ⟨by simp [anyIn, g3, *], HB⟩)
              case rest =>
                obtain ⟨rfl, HB⟩ := hcut
                cases c3 : anyIn r g3 with
                | true =>
                  have HV := Aside0.mk (show refC r = 216 by simp only [refC, refT, refG, c0, c1, c2, c3, Bool.false_eq_true, if_false, if_true]); go_wp2; go_ret; exact ⟨by rw [HV.out]; rfl, HB.out⟩
                | false =>
                  go_upto_if 47 with (go_at_call 88; go_must (refine (InQ r _ _ HB.out).mono ?_; clear HB; rintro E w1 ⟨rfl, p1⟩; have HB := Aside0.mk p1; clear p1)); go_cut [47] (fun vq wq => vq = .bool (anyIn r g4) ∧ Aside0 (Drawn0 w wq))
                  case first =>
                    go_wp2_with (go_at_call 88; go_must (refine (InQ r _ _ HB.out).mono ?_; clear HB; rintro E w1 ⟨rfl, p1⟩; have HB := Aside0.mk p1; clear p1)); all_goals (go_meet; case rel => exact ⟨by simp [anyIn, g4, *], HB⟩)
                  case rest =>
                    obtain ⟨rfl, HB⟩ := hcut
                    cases c4 : anyIn r g4 with
                    | true =>
                      have HV := Aside0.mk (show refC r = 202 by simp only [refC, refT, refG, c0, c1, c2, c3, c4, Bool.false_eq_true, if_false, if_true]); go_wp2; go_ret; exact ⟨by rw [HV.out]; rfl, HB.out⟩
                    | false =>
                      go_upto_region 24 with (fail); go_cut [52] (fun vq wq => vq = .bool (anyIn r g5) ∧ Aside0 (Drawn0 w wq))
                      case first =>
                        go_wp2_with (go_at_call 88; go_must (refine (InQ r _ _ HB.out).mono ?_; clear HB; rintro E w1 ⟨rfl, p1⟩; have HB := Aside0.mk p1; clear p1)); all_goals (go_meet; case rel => exact ⟨by simp [anyIn, g5, *], HB⟩)
                      case rest =>
                        obtain ⟨rfl, HB⟩ := hcut
                        cases c5 : anyIn r g5 with
                        | true =>
                          have HV := Aside0.mk (show refC r = 1 by simp only [refC, refT, refG, c0, c1, c2, c3, c4, c5, Bool.false_eq_true, if_false, if_true]); go_wp2; go_ret; exact ⟨by rw [HV.out]; rfl, HB.out⟩
                        | false =>
                          go_upto_region 26 with (fail); go_cut [55] (fun vq wq => vq = .bool (anyIn r g6) ∧ Aside0 (Drawn0 w wq))
                          case first =>
                            go_wp2_with (go_at_call 88; go_must (refine (InQ r _ _ HB.out).mono ?_; clear HB; rintro E w1 ⟨rfl, p1⟩; have HB := Aside0.mk p1; clear p1)); all_goals (go_meet; case rel => exact ⟨by simp [anyIn, g6, *], HB⟩)
                          case rest =>
                            obtain ⟨rfl, HB⟩ := hcut
                            cases c6 : anyIn r g6 with
                            | true =>
                              have HV := Aside0.mk (show refC r = 240 by simp only [refC, refT, refG, c0, c1, c2, c3, c4, c5, c6, Bool.false_eq_true, if_false, if_true]); go_wp2; go_ret; exact ⟨by rw [HV.out]; rfl, HB.out⟩
                            | false =>
                              go_upto_region 28 with (fail); go_cut [58] (fun vq wq => vq = .bool (anyIn r g7) ∧ Aside0 (Drawn0 w wq))
                              case first =>
                                go_wp2_with (go_at_call 88; go_must (refine (InQ r _ _ HB.out).mono ?_; clear HB; rintro E w1 ⟨rfl, p1⟩; have HB := Aside0.mk p1; clear p1)); all_goals (go_meet; case rel => exact ⟨by simp [anyIn, g7, *], HB⟩)
                              case rest =>
                                obtain ⟨rfl, HB⟩ := hcut
                                cases c7 : anyIn r g7 with
                                | true =>
                                  have HV := Aside0.mk (show refC r = 8 by simp only [refC, refT, refG, c0, c1, c2, c3, c4, c5, c6, c7, Bool.false_eq_true, if_false, if_true]); go_wp2; go_ret; exact ⟨by rw [HV.out]; rfl, HB.out⟩
                                | false =>
                                  have HV := Aside0.mk (show refC r = 0 by simp only [refC, refT, refG, c0, c1, c2, c3, c4, c5, c6, c7, Bool.false_eq_true, if_false]); go_wp2; go_ret; exact ⟨by rw [HV.out]; rfl, HB.out⟩
end Go.Proofs.YthffpkdadffinaaDoor.Vci
namespace Go.Proofs.YthffpkdadffinaaDoor.Vcx
set_option linter.unusedVariables false
set_option linter.unusedSimpArgs false
open Go.RowKit YthffpkdadffinaaDoorW.PrintWords Va Vin Vci
def clsB : List Int := refT.flatMap fun q => q.1.flatMap fun p => [p.1, p.2 + 1]
theorem clsF_of {r x : Int} (hx : AlikeB clsB r x) : ∀ l : List (Int × Int × Int), (∀ p ∈ l, p.1 ∈ clsB ∧ p.2.1 + 1 ∈ clsB) → clsF r l = clsF x l
  | [], _ => rfl
  | p :: t, h => by
    have h1 := h p (List.mem_cons_self ..); have a1 := hx _ h1.1; have a2 := hx _ h1.2; rw [clsF, clsF, clsF_of hx t (fun q hq => h q (List.mem_cons_of_mem _ hq))]; by_cases c : p.1 ≤ r ∧ r ≤ p.2.1
    · rw [if_pos c, if_pos (by omega)]
    · rw [if_neg c, if_neg (by omega)]
theorem cls_at : ∀ x ∈ -1 :: clsB, refC x = cls x := by decide +kernel
theorem refC_cls (r : Int) : refC r = cls r := by
  obtain ⟨x, hx1, hx⟩ := rep clsB r (by decide +kernel); have hc : cls r = cls x := clsF_of hx clsT (by decide +kernel); rw [hc, ← cls_at x hx1]; exact refG_of hx _ refT (by decide +kernel)
end Go.Proofs.YthffpkdadffinaaDoor.Vcx
namespace Go.Proofs.YthffpkdadffinaaDoor.X
set_option linter.unusedVariables false
set_option linter.unusedSimpArgs false
open Go.RowKit YthffpkdadffinaaDoorW.PrintWords
def tremaref02_Class.f (_ : Nat) (a0 : Int) : Option Int := some (Va.cls a0)
theorem tremaref02_Class.mono : ∀ a0 k, LeO (tremaref02_Class.f k a0) (tremaref02_Class.f (k + 1) a0) := fun _ _ _ h => h
theorem tremaref02_Class.calls (k : Nat) (a0 : Int) (r : Int) (w : World) (h : tremaref02_Class.f k a0 = some r) : Calls Tryd.prog 78 #[.int .i32 a0] w fun e w' => e = .returned (.int .i64 r) ∧ Drawn0 w w' := by
  have h2 := Vci.refClass_walk w a0; rw [Vcx.refC_cls, Option.some.inj h] at h2; exact h2
end Go.Proofs.YthffpkdadffinaaDoor.X
namespace Go.Proofs.YthffpkdadffinaaDoor.X
open Go.RowKit YthffpkdadffinaaDoorW.PrintWords YthffpkdadffinaaDoorW.PrintLast YthffpkdadffinaaDoorW.PrintMore
attribute [local go_sem] max2_int min2_int max_two min_two max_three min_three max_four min_four   
set_option linter.unusedVariables false
set_option linter.unusedSimpArgs false
def tremaref02_Trailing.f (a0 : Int) : Option (Bool) := (tremaref02_in.f a0 4449 4469).bind fun t150 => (if t150 = true then (some true) else ((tremaref02_in.f a0 4520 4546).bind fun t151 => (some t151)))
set_option maxHeartbeats 8000000 in
set_option maxRecDepth 100000 in
theorem tremaref02_Trailing.calls (a0 : Int) (r : Bool) (w : World) (h : tremaref02_Trailing.f a0 = some r) :
  Calls Tryd.prog 79 #[.int .i32 a0] w fun e w' => e = .returned (.bool r) ∧ Drawn0 w w' := by
 have H : ((tremaref02_in.f a0 4449 4469).bind fun t150 => (if t150 = true then (some true) else ((tremaref02_in.f a0 4520 4546).bind fun t151 => (some t151)))) = some r := h; clear h; replace H := Option.bind_eq_some_iff.mp H; obtain ⟨t150, A20, H⟩ := H; (try dsimp only at H); have A2 := Aside0.mk A20; clear A20; by_cases c3 : t150 = true
 ·subst c3; rw [if_pos rfl] at H; obtain rfl := Option.some.inj H; go_enter Tryd.func79, Tryd.ntmps79; go_wp2_with (first | ((with_reducible refine gate_callee (f := 88) rfl ?_); refine goesL_ (some 4) rfl rfl Tryd.func88 (by kernel_rfl) rfl #[.int .i32 a0, .int .i32 4449, .int .i32 4469] rfl (by (try simp only [List.map_toArray, List.map_cons, List.map_nil]); first | done | rfl | (simp only [List.length_drop, List.length_take]; rfl)) ?_; (with_reducible refine (tremaref02_in.calls a0 4449 4469 true _ A2.out).mono ?_); rintro e w' ⟨rfl, ⟨nd, rfl⟩⟩; refine ⟨_, rfl, ?_⟩)); go_ret; exact ⟨by first | rfl | (simp; done) | (simp [*]; done), by repeat (first | exact Drawn0.refl _ | apply Drawn0.step)⟩
 ·replace c3 := Bool.eq_false_iff.mpr c3; subst c3; rw [if_neg (show ¬ (false = true) by decide)] at H; replace H := Option.bind_eq_some_iff.mp H; obtain ⟨t151, A40, H⟩ := H; replace H : (some t151) = some r := H; have A4 := Aside0.mk A40; clear A40; obtain rfl := Option.some.inj H; go_enter Tryd.func79, Tryd.ntmps79; go_wp2_with (first | ((with_reducible refine gate_callee (f := 88) rfl ?_); refine goesL_ (some 4) rfl rfl Tryd.func88 (by kernel_rfl) rfl #[.int .i32 a0, .int .i32 4449, .int .i32 4469] rfl (by (try simp only [List.map_toArray, List.map_cons, List.map_nil]); first | done | rfl | (simp only [List.length_drop, List.length_take]; rfl)) ?_; (with_reducible refine (tremaref02_in.calls a0 4449 4469 false _ A2.out).mono ?_); rintro e w' ⟨rfl, ⟨nd, rfl⟩⟩; refine ⟨_, rfl, ?_⟩) | (go_at_call 88; (with_reducible refine (tremaref02_in.calls a0 4520 4546 t151 _ A4.out).mono ?_); rintro e w' ⟨rfl, ⟨nd, rfl⟩⟩)); go_ret; exact ⟨by first | rfl | (simp; done) | (simp [*]; done), by repeat (first | exact Drawn0.refl _ | apply Drawn0.step)⟩
end Go.Proofs.YthffpkdadffinaaDoor.X
namespace Go.Proofs.YthffpkdadffinaaDoor.Vr
set_option linter.unusedVariables false
set_option linter.unusedSimpArgs false
open Go.RowKit YthffpkdadffinaaDoorW.PrintWords Ev0 X Va Vc Vd Ve Vp0
theorem refcls (r : Int) : tremaref02_Class.f 30 r = some (cls r) := rfl
theorem clsEv (r : Int) : Ev (fun k => tremaref02_Class.f k r) (cls r) := Ev.of (tremaref02_Class.mono r) (refcls r)
theorem reftrl (r : Int) : tremaref02_Trailing.f r = some (trl r) := by
  have h : ∀ lo hi : Int, tremaref02_in.f r lo hi = some (decide (lo ≤ r ∧ r ≤ hi)) := fun lo hi => by
    unfold tremaref02_in.f; by_cases c : lo ≤ r
    · rw [if_pos c]; congr 1; rw [decide_eq_decide]; omega
    · rw [if_neg c]; congr 1; symm; rw [decide_eq_false_iff_not]; omega
  unfold tremaref02_Trailing.f trl; rw [h, h]; simp only [Option.bind_some]; by_cases c1 : 4449 ≤ r ∧ r ≤ 4469
  · rw [decide_eq_true c1, if_pos rfl, decide_eq_true (.inl c1)]
  · rw [decide_eq_false c1, if_neg Bool.false_ne_true]; congr 1; rw [decide_eq_decide]; omega
end Go.Proofs.YthffpkdadffinaaDoor.Vr
namespace Go.Proofs.YthffpkdadffinaaDoor.X
open Go.RowKit YthffpkdadffinaaDoorW.PrintWords YthffpkdadffinaaDoorW.PrintLast YthffpkdadffinaaDoorW.PrintMore
attribute [local go_sem] max2_int min2_int max_two min_two max_three min_three max_four min_four   
set_option linter.unusedVariables false
set_option linter.unusedSimpArgs false
def tremaref02_few.f (a0 : Int) : Option (Int × Int × Int) := if a0 = 469 then (some (220, 772, 2)) else (if a0 = 470 then (some (252, 772, 2)) else (if a0 = 832 then (some (768, 0, 1)) else (if a0 = 833 then (some (769, 0, 1)) else (if a0 = 835 then (some (787, 0, 1)) else (if a0 = 836 then (some (776, 769, 2)) else (if a0 = 902 then (some (913, 769, 2)) else (if a0 = 912 then (some (970, 769, 2)) else (if a0 = 940 then (some (945, 769, 2)) else (if a0 = 943 then (some (953, 769, 2)) else (if a0 = 970 then (some (953, 776, 2)) else (if a0 = 972 then (some (959, 769, 2)) else (if a0 = 7691 then (some (100, 775, 2)) else (if a0 = 7693 then (some (100, 803, 2)) else (if a0 = 7777 then (some (115, 775, 2)) else (if a0 = 7779 then (some (115, 803, 2)) else (if a0 = 7785 then (some (7779, 775, 2)) else (if a0 = 7841 then (some (97, 803, 2)) else (if a0 = 7844 then (some (194, 769, 2)) else (if a0 = 7845 then (some (226, 769, 2)) else (if a0 = 7863 then (some (7841, 774, 2)) else (if a0 = 7865 then (some (101, 803, 2)) else (if a0 = 7879 then (some (7865, 770, 2)) else (if a0 = 8049 then (some (940, 0, 1)) else (if a0 = 8115 then (some (945, 837, 2)) else (if a0 = 8486 then (some (937, 0, 1)) else (if a0 = 8490 then (some (75, 0, 1)) else (if a0 = 8491 then (some (197, 0, 1)) else (if a0 = 8800 then (some (61, 824, 2)) else (if a0 = 12364 then (some (12363, 12441, 2)) else (if a0 = 12497 then (some (12495, 12442, 2)) else (some (0, 0, 0))))))))))))))))))))))))))))))))
set_option maxHeartbeats 8000000 in
set_option maxRecDepth 100000 in
theorem tremaref02_few.calls (a0 : Int) (r1 : Int) (r2 : Int) (r3 : Int) (w : World) (h : tremaref02_few.f a0 = some (r1, r2, r3)) :
  Calls Tryd.prog 117 #[.int .i32 a0] w fun e w' => e = .returned (.tuple #[.int .i32 r1, .int .i32 r2, .int .i64 r3]) ∧ Drawn0 w w' := by
 have H : (if a0 = 469 then (some (220, 772, 2)) else (if a0 = 470 then (some (252, 772, 2)) else (if a0 = 832 then (some (768, 0, 1)) else (if a0 = 833 then (some (769, 0, 1)) else (if a0 = 835 then (some (787, 0, 1)) else (if a0 = 836 then (some (776, 769, 2)) else (if a0 = 902 then (some (913, 769, 2)) else (if a0 = 912 then (some (970, 769, 2)) else (if a0 = 940 then (some (945, 769, 2)) else (if a0 = 943 then (some (953, 769, 2)) else (if a0 = 970 then (some (953, 776, 2)) else (if a0 = 972 then (some (959, 769, 2)) else (if a0 = 7691 then (some (100, 775, 2)) else (if a0 = 7693 then (some (100, 803, 2)) else (if a0 = 7777 then (some (115, 775, 2)) else (if a0 = 7779 then (some (115, 803, 2)) else (if a0 = 7785 then (some (7779, 775, 2)) else (if a0 = 7841 then (some (97, 803, 2)) else (if a0 = 7844 then (some (194, 769, 2)) else (if a0 = 7845 then (some (226, 769, 2)) else (if a0 = 7863 then (some (7841, 774, 2)) else (if a0 = 7865 then (some (101, 803, 2)) else (if a0 = 7879 then (some (7865, 770, 2)) else (if a0 = 8049 then (some (940, 0, 1)) else (if a0 = 8115 then (some (945, 837, 2)) else (if a0 = 8486 then (some (937, 0, 1)) else (if a0 = 8490 then (some (75, 0, 1)) else (if a0 = 8491 then (some (197, 0, 1)) else (if a0 = 8800 then (some (61, 824, 2)) else (if a0 = 12364 then (some (12363, 12441, 2)) else (if a0 = 12497 then (some (12495, 12442, 2)) else (some (0, 0, 0))))))))))))))))))))))))))))))))) = some (r1, r2, r3) := h; clear h; by_cases c2 : a0 = 469
 ·rw [if_pos c2] at H; have c2b0 : (a0 == 469) = true := beq_iff_eq.mpr c2; have c2b1 : (a0 != 469) = false := bne_eq_false_iff_eq.mpr c2; clear c2; simp only [Option.some.injEq, Prod.mk.injEq] at H; obtain ⟨rfl, rfl, rfl⟩ := H; go_enter Tryd.func117, Tryd.ntmps117; go_wp2; go_ret3; exact ⟨by first | rfl | (simp; done) | (simp [*]; done), by repeat (first | exact Drawn0.refl _ | apply Drawn0.step)⟩
 ·rw [if_neg c2] at H; have c2b0 : (a0 == 469) = false := beq_eq_false_iff_ne.mpr c2; have c2b1 : (a0 != 469) = true := bne_iff_ne.mpr c2; by_cases c3 : a0 = 470
  ·rw [if_pos c3] at H; have c3b0 : (a0 == 470) = true := beq_iff_eq.mpr c3; have c3b1 : (a0 != 470) = false := bne_eq_false_iff_eq.mpr c3; clear c3; simp only [Option.some.injEq, Prod.mk.injEq] at H; obtain ⟨rfl, rfl, rfl⟩ := H; go_enter Tryd.func117, Tryd.ntmps117; go_wp2; go_ret3; exact ⟨by first | rfl | (simp; done) | (simp [*]; done), by repeat (first | exact Drawn0.refl _ | apply Drawn0.step)⟩
  ·rw [if_neg c3] at H; have c3b0 : (a0 == 470) = false := beq_eq_false_iff_ne.mpr c3; have c3b1 : (a0 != 470) = true := bne_iff_ne.mpr c3; by_cases c4 : a0 = 832
   ·rw [if_pos c4] at H; have c4b0 : (a0 == 832) = true := beq_iff_eq.mpr c4; have c4b1 : (a0 != 832) = false := bne_eq_false_iff_eq.mpr c4; clear c4; simp only [Option.some.injEq, Prod.mk.injEq] at H; obtain ⟨rfl, rfl, rfl⟩ := H; go_enter Tryd.func117, Tryd.ntmps117; go_wp2; go_ret3; exact ⟨by first | rfl | (simp; done) | (simp [*]; done), by repeat (first | exact Drawn0.refl _ | apply Drawn0.step)⟩
   ·rw [if_neg c4] at H; have c4b0 : (a0 == 832) = false := beq_eq_false_iff_ne.mpr c4; have c4b1 : (a0 != 832) = true := bne_iff_ne.mpr c4; by_cases c5 : a0 = 833
    ·rw [if_pos c5] at H; have c5b0 : (a0 == 833) = true := beq_iff_eq.mpr c5; have c5b1 : (a0 != 833) = false := bne_eq_false_iff_eq.mpr c5; clear c5; simp only [Option.some.injEq, Prod.mk.injEq] at H; obtain ⟨rfl, rfl, rfl⟩ := H; go_enter Tryd.func117, Tryd.ntmps117; go_wp2; go_ret3; exact ⟨by first | rfl | (simp; done) | (simp [*]; done), by repeat (first | exact Drawn0.refl _ | apply Drawn0.step)⟩
    ·rw [if_neg c5] at H; have c5b0 : (a0 == 833) = false := beq_eq_false_iff_ne.mpr c5; have c5b1 : (a0 != 833) = true := bne_iff_ne.mpr c5; by_cases c6 : a0 = 835
     ·rw [if_pos c6] at H; have c6b0 : (a0 == 835) = true := beq_iff_eq.mpr c6; have c6b1 : (a0 != 835) = false := bne_eq_false_iff_eq.mpr c6; clear c6; simp only [Option.some.injEq, Prod.mk.injEq] at H; obtain ⟨rfl, rfl, rfl⟩ := H; go_enter Tryd.func117, Tryd.ntmps117; go_wp2; go_ret3; exact ⟨by first | rfl | (simp; done) | (simp [*]; done), by repeat (first | exact Drawn0.refl _ | apply Drawn0.step)⟩
     ·rw [if_neg c6] at H; have c6b0 : (a0 == 835) = false := beq_eq_false_iff_ne.mpr c6; have c6b1 : (a0 != 835) = true := bne_iff_ne.mpr c6; by_cases c7 : a0 = 836
      ·rw [if_pos c7] at H; have c7b0 : (a0 == 836) = true := beq_iff_eq.mpr c7; have c7b1 : (a0 != 836) = false := bne_eq_false_iff_eq.mpr c7; clear c7; simp only [Option.some.injEq, Prod.mk.injEq] at H; obtain ⟨rfl, rfl, rfl⟩ := H; go_enter Tryd.func117, Tryd.ntmps117; go_wp2; go_ret3; exact ⟨by first | rfl | (simp; done) | (simp [*]; done), by repeat (first | exact Drawn0.refl _ | apply Drawn0.step)⟩
      ·rw [if_neg c7] at H; have c7b0 : (a0 == 836) = false := beq_eq_false_iff_ne.mpr c7; have c7b1 : (a0 != 836) = true := bne_iff_ne.mpr c7; by_cases c8 : a0 = 902
       ·rw [if_pos c8] at H; have c8b0 : (a0 == 902) = true := beq_iff_eq.mpr c8; have c8b1 : (a0 != 902) = false := bne_eq_false_iff_eq.mpr c8; clear c8; simp only [Option.some.injEq, Prod.mk.injEq] at H; obtain ⟨rfl, rfl, rfl⟩ := H; go_enter Tryd.func117, Tryd.ntmps117; go_wp2; go_ret3; exact ⟨by first | rfl | (simp; done) | (simp [*]; done), by repeat (first | exact Drawn0.refl _ | apply Drawn0.step)⟩
       ·rw [if_neg c8] at H; have c8b0 : (a0 == 902) = false := beq_eq_false_iff_ne.mpr c8; have c8b1 : (a0 != 902) = true := bne_iff_ne.mpr c8; by_cases c9 : a0 = 912
        ·rw [if_pos c9] at H; have c9b0 : (a0 == 912) = true := beq_iff_eq.mpr c9; have c9b1 : (a0 != 912) = false := bne_eq_false_iff_eq.mpr c9; clear c9; simp only [Option.some.injEq, Prod.mk.injEq] at H; obtain ⟨rfl, rfl, rfl⟩ := H; go_enter Tryd.func117, Tryd.ntmps117; go_wp2; go_ret3; exact ⟨by first | rfl | (simp; done) | (simp [*]; done), by repeat (first | exact Drawn0.refl _ | apply Drawn0.step)⟩
        ·rw [if_neg c9] at H; have c9b0 : (a0 == 912) = false := beq_eq_false_iff_ne.mpr c9; have c9b1 : (a0 != 912) = true := bne_iff_ne.mpr c9; by_cases c10 : a0 = 940
         ·rw [if_pos c10] at H; have c10b0 : (a0 == 940) = true := beq_iff_eq.mpr c10; have c10b1 : (a0 != 940) = false := bne_eq_false_iff_eq.mpr c10; clear c10; simp only [Option.some.injEq, Prod.mk.injEq] at H; obtain ⟨rfl, rfl, rfl⟩ := H; go_enter Tryd.func117, Tryd.ntmps117; go_wp2; go_ret3; exact ⟨by first | rfl | (simp; done) | (simp [*]; done), by repeat (first | exact Drawn0.refl _ | apply Drawn0.step)⟩
         ·rw [if_neg c10] at H; have c10b0 : (a0 == 940) = false := beq_eq_false_iff_ne.mpr c10; have c10b1 : (a0 != 940) = true := bne_iff_ne.mpr c10; by_cases c11 : a0 = 943
          ·rw [if_pos c11] at H; have c11b0 : (a0 == 943) = true := beq_iff_eq.mpr c11; have c11b1 : (a0 != 943) = false := bne_eq_false_iff_eq.mpr c11; clear c11; simp only [Option.some.injEq, Prod.mk.injEq] at H; obtain ⟨rfl, rfl, rfl⟩ := H; go_enter Tryd.func117, Tryd.ntmps117; go_wp2; go_ret3; exact ⟨by first | rfl | (simp; done) | (simp [*]; done), by repeat (first | exact Drawn0.refl _ | apply Drawn0.step)⟩
          ·rw [if_neg c11] at H; have c11b0 : (a0 == 943) = false := beq_eq_false_iff_ne.mpr c11; have c11b1 : (a0 != 943) = true := bne_iff_ne.mpr c11; by_cases c12 : a0 = 970
           ·rw [if_pos c12] at H; have c12b0 : (a0 == 970) = true := beq_iff_eq.mpr c12; have c12b1 : (a0 != 970) = false := bne_eq_false_iff_eq.mpr c12; clear c12; simp only [Option.some.injEq, Prod.mk.injEq] at H; obtain ⟨rfl, rfl, rfl⟩ := H; go_enter Tryd.func117, Tryd.ntmps117; go_wp2; go_ret3; exact ⟨by first | rfl | (simp; done) | (simp [*]; done), by repeat (first | exact Drawn0.refl _ | apply Drawn0.step)⟩
           ·rw [if_neg c12] at H; have c12b0 : (a0 == 970) = false := beq_eq_false_iff_ne.mpr c12; have c12b1 : (a0 != 970) = true := bne_iff_ne.mpr c12; by_cases c13 : a0 = 972
            ·rw [if_pos c13] at H; have c13b0 : (a0 == 972) = true := beq_iff_eq.mpr c13; have c13b1 : (a0 != 972) = false := bne_eq_false_iff_eq.mpr c13; clear c13; simp only [Option.some.injEq, Prod.mk.injEq] at H; obtain ⟨rfl, rfl, rfl⟩ := H; go_enter Tryd.func117, Tryd.ntmps117; go_wp2; go_ret3; exact ⟨by first | rfl | (simp; done) | (simp [*]; done), by repeat (first | exact Drawn0.refl _ | apply Drawn0.step)⟩
            ·rw [if_neg c13] at H; have c13b0 : (a0 == 972) = false := beq_eq_false_iff_ne.mpr c13; have c13b1 : (a0 != 972) = true := bne_iff_ne.mpr c13; by_cases c14 : a0 = 7691
             ·rw [if_pos c14] at H; have c14b0 : (a0 == 7691) = true := beq_iff_eq.mpr c14; have c14b1 : (a0 != 7691) = false := bne_eq_false_iff_eq.mpr c14; clear c14; simp only [Option.some.injEq, Prod.mk.injEq] at H; obtain ⟨rfl, rfl, rfl⟩ := H; go_enter Tryd.func117, Tryd.ntmps117; go_wp2; go_ret3; exact ⟨by first | rfl | (simp; done) | (simp [*]; done), by repeat (first | exact Drawn0.refl _ | apply Drawn0.step)⟩
             ·rw [if_neg c14] at H; have c14b0 : (a0 == 7691) = false := beq_eq_false_iff_ne.mpr c14; have c14b1 : (a0 != 7691) = true := bne_iff_ne.mpr c14; by_cases c15 : a0 = 7693
              ·rw [if_pos c15] at H; have c15b0 : (a0 == 7693) = true := beq_iff_eq.mpr c15; have c15b1 : (a0 != 7693) = false := bne_eq_false_iff_eq.mpr c15; clear c15; simp only [Option.some.injEq, Prod.mk.injEq] at H; obtain ⟨rfl, rfl, rfl⟩ := H; go_enter Tryd.func117, Tryd.ntmps117; go_wp2; go_ret3; exact ⟨by first | rfl | (simp; done) | (simp [*]; done), by repeat (first | exact Drawn0.refl _ | apply Drawn0.step)⟩
              ·rw [if_neg c15] at H; have c15b0 : (a0 == 7693) = false := beq_eq_false_iff_ne.mpr c15; have c15b1 : (a0 != 7693) = true := bne_iff_ne.mpr c15; by_cases c16 : a0 = 7777
               ·rw [if_pos c16] at H; have c16b0 : (a0 == 7777) = true := beq_iff_eq.mpr c16; have c16b1 : (a0 != 7777) = false := bne_eq_false_iff_eq.mpr c16; clear c16; simp only [Option.some.injEq, Prod.mk.injEq] at H; obtain ⟨rfl, rfl, rfl⟩ := H; go_enter Tryd.func117, Tryd.ntmps117; go_wp2; go_ret3; exact ⟨by first | rfl | (simp; done) | (simp [*]; done), by repeat (first | exact Drawn0.refl _ | apply Drawn0.step)⟩
               ·rw [if_neg c16] at H; have c16b0 : (a0 == 7777) = false := beq_eq_false_iff_ne.mpr c16; have c16b1 : (a0 != 7777) = true := bne_iff_ne.mpr c16; by_cases c17 : a0 = 7779
                ·rw [if_pos c17] at H; have c17b0 : (a0 == 7779) = true := beq_iff_eq.mpr c17; have c17b1 : (a0 != 7779) = false := bne_eq_false_iff_eq.mpr c17; clear c17; simp only [Option.some.injEq, Prod.mk.injEq] at H; obtain ⟨rfl, rfl, rfl⟩ := H; go_enter Tryd.func117, Tryd.ntmps117; go_wp2; go_ret3; exact ⟨by first | rfl | (simp; done) | (simp [*]; done), by repeat (first | exact Drawn0.refl _ | apply Drawn0.step)⟩
                ·rw [if_neg c17] at H; have c17b0 : (a0 == 7779) = false := beq_eq_false_iff_ne.mpr c17; have c17b1 : (a0 != 7779) = true := bne_iff_ne.mpr c17; by_cases c18 : a0 = 7785
                 ·rw [if_pos c18] at H; have c18b0 : (a0 == 7785) = true := beq_iff_eq.mpr c18; have c18b1 : (a0 != 7785) = false := bne_eq_false_iff_eq.mpr c18; clear c18; simp only [Option.some.injEq, Prod.mk.injEq] at H; obtain ⟨rfl, rfl, rfl⟩ := H; go_enter Tryd.func117, Tryd.ntmps117; go_wp2; go_ret3; exact ⟨by first | rfl | (simp; done) | (simp [*]; done), by repeat (first | exact Drawn0.refl _ | apply Drawn0.step)⟩
                 ·rw [if_neg c18] at H; have c18b0 : (a0 == 7785) = false := beq_eq_false_iff_ne.mpr c18; have c18b1 : (a0 != 7785) = true := bne_iff_ne.mpr c18; by_cases c19 : a0 = 7841
                  ·rw [if_pos c19] at H; have c19b0 : (a0 == 7841) = true := beq_iff_eq.mpr c19; have c19b1 : (a0 != 7841) = false := bne_eq_false_iff_eq.mpr c19; clear c19; simp only [Option.some.injEq, Prod.mk.injEq] at H; obtain ⟨rfl, rfl, rfl⟩ := H; go_enter Tryd.func117, Tryd.ntmps117; go_wp2; go_ret3; exact ⟨by first | rfl | (simp; done) | (simp [*]; done), by repeat (first | exact Drawn0.refl _ | apply Drawn0.step)⟩
                  ·rw [if_neg c19] at H; have c19b0 : (a0 == 7841) = false := beq_eq_false_iff_ne.mpr c19; have c19b1 : (a0 != 7841) = true := bne_iff_ne.mpr c19; by_cases c20 : a0 = 7844
                   ·rw [if_pos c20] at H; have c20b0 : (a0 == 7844) = true := beq_iff_eq.mpr c20; have c20b1 : (a0 != 7844) = false := bne_eq_false_iff_eq.mpr c20; clear c20; simp only [Option.some.injEq, Prod.mk.injEq] at H; obtain ⟨rfl, rfl, rfl⟩ := H; go_enter Tryd.func117, Tryd.ntmps117; go_wp2; go_ret3; exact ⟨by first | rfl | (simp; done) | (simp [*]; done), by repeat (first | exact Drawn0.refl _ | apply Drawn0.step)⟩
                   ·rw [if_neg c20] at H; have c20b0 : (a0 == 7844) = false := beq_eq_false_iff_ne.mpr c20; have c20b1 : (a0 != 7844) = true := bne_iff_ne.mpr c20; by_cases c21 : a0 = 7845
                    ·rw [if_pos c21] at H; have c21b0 : (a0 == 7845) = true := beq_iff_eq.mpr c21; have c21b1 : (a0 != 7845) = false := bne_eq_false_iff_eq.mpr c21; clear c21; simp only [Option.some.injEq, Prod.mk.injEq] at H; obtain ⟨rfl, rfl, rfl⟩ := H; go_enter Tryd.func117, Tryd.ntmps117; go_wp2; go_ret3; exact ⟨by first | rfl | (simp; done) | (simp [*]; done), by repeat (first | exact Drawn0.refl _ | apply Drawn0.step)⟩
                    ·rw [if_neg c21] at H; have c21b0 : (a0 == 7845) = false := beq_eq_false_iff_ne.mpr c21; have c21b1 : (a0 != 7845) = true := bne_iff_ne.mpr c21; by_cases c22 : a0 = 7863
                     ·rw [if_pos c22] at H; have c22b0 : (a0 == 7863) = true := beq_iff_eq.mpr c22; have c22b1 : (a0 != 7863) = false := bne_eq_false_iff_eq.mpr c22; clear c22; simp only [Option.some.injEq, Prod.mk.injEq] at H; obtain ⟨rfl, rfl, rfl⟩ := H; go_enter Tryd.func117, Tryd.ntmps117; go_wp2; go_ret3; exact ⟨by first | rfl | (simp; done) | (simp [*]; done), by repeat (first | exact Drawn0.refl _ | apply Drawn0.step)⟩
                     ·rw [if_neg c22] at H; have c22b0 : (a0 == 7863) = false := beq_eq_false_iff_ne.mpr c22; have c22b1 : (a0 != 7863) = true := bne_iff_ne.mpr c22; by_cases c23 : a0 = 7865
                      ·rw [if_pos c23] at H; have c23b0 : (a0 == 7865) = true := beq_iff_eq.mpr c23; have c23b1 : (a0 != 7865) = false := bne_eq_false_iff_eq.mpr c23; clear c23; simp only [Option.some.injEq, Prod.mk.injEq] at H; obtain ⟨rfl, rfl, rfl⟩ := H; go_enter Tryd.func117, Tryd.ntmps117; go_wp2; go_ret3; exact ⟨by first | rfl | (simp; done) | (simp [*]; done), by repeat (first | exact Drawn0.refl _ | apply Drawn0.step)⟩
                      ·rw [if_neg c23] at H; have c23b0 : (a0 == 7865) = false := beq_eq_false_iff_ne.mpr c23; have c23b1 : (a0 != 7865) = true := bne_iff_ne.mpr c23; by_cases c24 : a0 = 7879
                       ·rw [if_pos c24] at H; have c24b0 : (a0 == 7879) = true := beq_iff_eq.mpr c24; have c24b1 : (a0 != 7879) = false := bne_eq_false_iff_eq.mpr c24; clear c24; simp only [Option.some.injEq, Prod.mk.injEq] at H; obtain ⟨rfl, rfl, rfl⟩ := H; go_enter Tryd.func117, Tryd.ntmps117; go_wp2; go_ret3; exact ⟨by first | rfl | (simp; done) | (simp [*]; done), by repeat (first | exact Drawn0.refl _ | apply Drawn0.step)⟩
                       ·rw [if_neg c24] at H; have c24b0 : (a0 == 7879) = false := beq_eq_false_iff_ne.mpr c24; have c24b1 : (a0 != 7879) = true := bne_iff_ne.mpr c24; by_cases c25 : a0 = 8049
                        ·rw [if_pos c25] at H; have c25b0 : (a0 == 8049) = true := beq_iff_eq.mpr c25; have c25b1 : (a0 != 8049) = false := bne_eq_false_iff_eq.mpr c25; clear c25; simp only [Option.some.injEq, Prod.mk.injEq] at H; obtain ⟨rfl, rfl, rfl⟩ := H; go_enter Tryd.func117, Tryd.ntmps117; go_wp2; go_ret3; exact ⟨by first | rfl | (simp; done) | (simp [*]; done), by repeat (first | exact Drawn0.refl _ | apply Drawn0.step)⟩
                        ·rw [if_neg c25] at H; have c25b0 : (a0 == 8049) = false := beq_eq_false_iff_ne.mpr c25; have c25b1 : (a0 != 8049) = true := bne_iff_ne.mpr c25; by_cases c26 : a0 = 8115
                         ·rw [if_pos c26] at H; have c26b0 : (a0 == 8115) = true := beq_iff_eq.mpr c26; have c26b1 : (a0 != 8115) = false := bne_eq_false_iff_eq.mpr c26; clear c26; simp only [Option.some.injEq, Prod.mk.injEq] at H; obtain ⟨rfl, rfl, rfl⟩ := H; go_enter Tryd.func117, Tryd.ntmps117; go_wp2; go_ret3; exact ⟨by first | rfl | (simp; done) | (simp [*]; done), by repeat (first | exact Drawn0.refl _ | apply Drawn0.step)⟩
                         ·rw [if_neg c26] at H; have c26b0 : (a0 == 8115) = false := beq_eq_false_iff_ne.mpr c26; have c26b1 : (a0 != 8115) = true := bne_iff_ne.mpr c26; by_cases c27 : a0 = 8486
                          ·rw [if_pos c27] at H; have c27b0 : (a0 == 8486) = true := beq_iff_eq.mpr c27; have c27b1 : (a0 != 8486) = false := bne_eq_false_iff_eq.mpr c27; clear c27; simp only [Option.some.injEq, Prod.mk.injEq] at H; obtain ⟨rfl, rfl, rfl⟩ := H; go_enter Tryd.func117, Tryd.ntmps117; go_wp2; go_ret3; exact ⟨by first | rfl | (simp; done) | (simp [*]; done), by repeat (first | exact Drawn0.refl _ | apply Drawn0.step)⟩
                          ·rw [if_neg c27] at H; have c27b0 : (a0 == 8486) = false := beq_eq_false_iff_ne.mpr c27; have c27b1 : (a0 != 8486) = true := bne_iff_ne.mpr c27; by_cases c28 : a0 = 8490
                           ·rw [if_pos c28] at H; have c28b0 : (a0 == 8490) = true := beq_iff_eq.mpr c28; have c28b1 : (a0 != 8490) = false := bne_eq_false_iff_eq.mpr c28; clear c28; simp only [Option.some.injEq, Prod.mk.injEq] at H; obtain ⟨rfl, rfl, rfl⟩ := H; go_enter Tryd.func117, Tryd.ntmps117; go_wp2; go_ret3; exact ⟨by first | rfl | (simp; done) | (simp [*]; done), by repeat (first | exact Drawn0.refl _ | apply Drawn0.step)⟩
                           ·rw [if_neg c28] at H; have c28b0 : (a0 == 8490) = false := beq_eq_false_iff_ne.mpr c28; have c28b1 : (a0 != 8490) = true := bne_iff_ne.mpr c28; by_cases c29 : a0 = 8491
                            ·rw [if_pos c29] at H; have c29b0 : (a0 == 8491) = true := beq_iff_eq.mpr c29; have c29b1 : (a0 != 8491) = false := bne_eq_false_iff_eq.mpr c29; clear c29; simp only [Option.some.injEq, Prod.mk.injEq] at H; obtain ⟨rfl, rfl, rfl⟩ := H; go_enter Tryd.func117, Tryd.ntmps117; go_wp2; go_ret3; exact ⟨by first | rfl | (simp; done) | (simp [*]; done), by repeat (first | exact Drawn0.refl _ | apply Drawn0.step)⟩
                            ·rw [if_neg c29] at H; have c29b0 : (a0 == 8491) = false := beq_eq_false_iff_ne.mpr c29; have c29b1 : (a0 != 8491) = true := bne_iff_ne.mpr c29; by_cases c30 : a0 = 8800
                             ·rw [if_pos c30] at H; have c30b0 : (a0 == 8800) = true := beq_iff_eq.mpr c30; have c30b1 : (a0 != 8800) = false := bne_eq_false_iff_eq.mpr c30; clear c30; simp only [Option.some.injEq, Prod.mk.injEq] at H; obtain ⟨rfl, rfl, rfl⟩ := H; go_enter Tryd.func117, Tryd.ntmps117; go_wp2; go_ret3; exact ⟨by first | rfl | (simp; done) | (simp [*]; done), by repeat (first | exact Drawn0.refl _ | apply Drawn0.step)⟩
                             ·rw [if_neg c30] at H; have c30b0 : (a0 == 8800) = false := beq_eq_false_iff_ne.mpr c30; have c30b1 : (a0 != 8800) = true := bne_iff_ne.mpr c30; by_cases c31 : a0 = 12364
                              ·rw [if_pos c31] at H; have c31b0 : (a0 == 12364) = true := beq_iff_eq.mpr c31; have c31b1 : (a0 != 12364) = false := bne_eq_false_iff_eq.mpr c31; clear c31; simp only [Option.some.injEq, Prod.mk.injEq] at H; obtain ⟨rfl, rfl, rfl⟩ := H; go_enter Tryd.func117, Tryd.ntmps117; go_wp2; go_ret3; exact ⟨by first | rfl | (simp; done) | (simp [*]; done), by repeat (first | exact Drawn0.refl _ | apply Drawn0.step)⟩
                              ·rw [if_neg c31] at H; have c31b0 : (a0 == 12364) = false := beq_eq_false_iff_ne.mpr c31; have c31b1 : (a0 != 12364) = true := bne_iff_ne.mpr c31; by_cases c32 : a0 = 12497
                               ·rw [if_pos c32] at H; have c32b0 : (a0 == 12497) = true := beq_iff_eq.mpr c32; have c32b1 : (a0 != 12497) = false := bne_eq_false_iff_eq.mpr c32; clear c32; simp only [Option.some.injEq, Prod.mk.injEq] at H; obtain ⟨rfl, rfl, rfl⟩ := H; go_enter Tryd.func117, Tryd.ntmps117; go_wp2; go_ret3; exact ⟨by first | rfl | (simp; done) | (simp [*]; done), by repeat (first | exact Drawn0.refl _ | apply Drawn0.step)⟩
                               ·rw [if_neg c32] at H; have c32b0 : (a0 == 12497) = false := beq_eq_false_iff_ne.mpr c32; have c32b1 : (a0 != 12497) = true := bne_iff_ne.mpr c32; simp only [Option.some.injEq, Prod.mk.injEq] at H; obtain ⟨rfl, rfl, rfl⟩ := H; go_enter Tryd.func117, Tryd.ntmps117; go_wp2; go_ret3; exact ⟨by first | rfl | (simp; done) | (simp [*]; done), by repeat (first | exact Drawn0.refl _ | apply Drawn0.step)⟩
end Go.Proofs.YthffpkdadffinaaDoor.X
namespace Go.Proofs.YthffpkdadffinaaDoor.Vi
set_option linter.unusedVariables false
set_option linter.unusedSimpArgs false
open Go.RowKit YthffpkdadffinaaDoorW.PrintWords Hp Va Vc Vd X
def Spells (s : ByteArray) : Nat → List (Nat × Nat) → Bool
  | pos, [] => decide (¬ pos < s.size)
  | pos, (r, n) :: t => decide (pos < s.size) && (Utf8.decode s pos == (r, n)) && decide (0 < n) && Spells s (pos + n) t
theorem run_next_at {P : Program} (w : World) (s : ByteArray) (pos : Nat) (ty : TypeId) (h : pos < s.size) {r n : Nat} (hd : Utf8.decode s pos = (r, n)) :
    (Instr.next (.pointer (some ⟨w.heap.size, 0, none⟩)) true ty).run P (w.iter s pos) = .ok (.tuple #[.bool true, .int .i64 pos, .int .i32 r]) (w.iter s (pos + n)) := by
  simp only [Instr.next, getObj, setObj, Sem.run_bind, Sem.run, World.iter_heap, Result.andThen, h, if_true, hd, World.iter_set]; simp [goInt, Sem.run, World.iter_heap, World.iter_set]
theorem it_below (w : World) (s : ByteArray) (pos : Nat) : Below w.heap.size w (w.iter s pos) := below_alloc (Below.refl _ _) _
theorem it_pos (w : World) (s : ByteArray) (pos : Nat) : (w.iter s pos).iterPos w.heap.size = pos := by simp [World.iterPos, World.iter_heap]
def nthF (at_ : Int) : Int → List (Nat × Nat) → Int
  | _, [] => 0
  | i, (r, _) :: t => if i = at_ then (r : Int) else nthF at_ (i + 1) t
def fndF (r : Int) : Int → Int → List (Nat × Nat) → Int
  | _, p, [] => p
  | i, p, (c, _) :: t => fndF r (i + 1) (if (c : Int) = r then i else p) t
set_option maxRecDepth 100000 in
set_option maxHeartbeats 1000000 in
theorem NthP (w : World) (s : ByteArray) (l : List (Nat × Nat)) (hs : Spells s 0 l = true) (hl : l.length ≤ 1000000) (a : Int) :
    Calls Tryd.prog 114 #[.string s, .int .i64 a] w fun e w' => e = .returned (.int .i32 (nthF a 0 l)) ∧ Below w.heap.size w w' := by
  have HS := Aside0.mk hs; clear hs; go_enter Tryd.func114, Tryd.ntmps114; go_wp2; go_loopw [5, 7] (fun iv rv wr => ∃ (i pos : Nat) (rest : List (Nat × Nat)), iv = .int .i64 i ∧ wr = w.iter s pos ∧ Aside0 (Spells s pos rest = true) ∧ Aside0 (nthF a 0 l = nthF a i rest) ∧ Aside0 (i + rest.length = l.length)) (fun _ _ wr => s.size - wr.iterPos w.heap.size)
  case atStart => exact ⟨0, 0, l, rfl, rfl, HS, ⟨rfl⟩, ⟨by omega⟩⟩
  case round =>
    obtain ⟨i, pos, rest, rfl, rfl, HR, HE, HL⟩ := hrel
    cases rest with
    | nil =>
      have hp := HR.out; simp only [Spells, decide_eq_true_eq] at hp; (have hnx := fun ty => run_next_end (P := Tryd.prog) w s pos ty hp); have HE1 := Aside0.mk (show nthF a 0 l = 0 from HE.out); have NB := Aside0.mk (it_below w s pos); clear hp HR HE; go_wp2; go_ret; exact ⟨by rw [HE1.out]; rfl, NB.out⟩
    | cons p t =>
      obtain ⟨r, n⟩ := p; have hp := HR.out; simp only [Spells, Bool.and_eq_true, decide_eq_true_eq, beq_iff_eq] at hp; obtain ⟨⟨⟨hp1, hp2⟩, hp3⟩, hp4⟩ := hp; (have hnx := fun ty => run_next_at (P := Tryd.prog) w s pos ty hp1 hp2); have HP4 := Aside0.mk hp4; have HP1 := Aside0.mk hp1; have NB := Aside0.mk (it_below w s (pos + n)); have MU := Aside0.mk (it_pos w s pos); have MU1 := Aside0.mk (it_pos w s (pos + n)); have he := HE.out; rw [nthF] at he; have hll := HL.out; rw [List.length_cons] at hll; clear hp1 hp2 hp4 HR HE; by_cases hi : (i : Int) = a
      · rw [if_pos hi] at he; have HE1 := Aside0.mk he; have hd : ((i : Int) == a) = true := beq_iff_eq.2 hi; clear he hll hi; go_wp2; go_ret; exact ⟨by rw [HE1.out]; rfl, NB.out⟩
      · rw [if_neg hi] at he; have HE1 := Aside0.mk he; have hd : ((i : Int) == a) = false := beq_eq_false_iff_ne.2 hi; have HLL := Aside0.mk hll; (have hi5 : (i : Int) ≤ 1000000 := by omega); clear he hll hi; go_wp2; go_roundw
        case rel => exact ⟨i + 1, pos + n, t, by go_num, rfl, HP4, ⟨by rw [HE1.out]; push_cast; rfl⟩, ⟨by have := HLL.out; omega⟩⟩
        case measure => rw [MU.out, MU1.out]; have := HP1.out; omega
def cmpL : List (Nat × Nat) := [(192, 2), (193, 2), (194, 2), (195, 2), (196, 2), (197, 2), (199, 2), (200, 2), (201, 2), (202, 2), (203, 2), (204, 2), (205, 2), (206, 2), (207, 2), (209, 2), (210, 2), (211, 2), (212, 2), (213, 2), (214, 2), (217, 2), (218, 2), (219, 2), (220, 2), (221, 2), (224, 2), (225, 2), (226, 2), (227, 2), (228, 2), (229, 2), (231, 2), (232, 2), (233, 2), (234, 2), (235, 2), (236, 2), (237, 2), (238, 2), (239, 2), (241, 2), (242, 2), (243, 2), (244, 2), (245, 2), (246, 2), (249, 2), (250, 2), (251, 2), (252, 2), (253, 2), (255, 2), (256, 2), (257, 2), (258, 2), (259, 2), (260, 2), (261, 2), (262, 2), (263, 2), (264, 2), (265, 2), (266, 2), (267, 2), (268, 2), (269, 2), (270, 2), (271, 2), (274, 2), (275, 2), (276, 2), (277, 2), (278, 2), (279, 2), (280, 2), (281, 2), (282, 2), (283, 2), (284, 2), (285, 2), (286, 2), (287, 2), (288, 2), (289, 2), (290, 2), (291, 2), (292, 2), (293, 2), (296, 2), (297, 2), (298, 2), (299, 2), (300, 2), (301, 2), (302, 2), (303, 2), (304, 2), (308, 2), (309, 2), (310, 2), (311, 2), (313, 2), (314, 2), (315, 2), (316, 2), (317, 2), (318, 2), (323, 2), (324, 2), (325, 2), (326, 2), (327, 2), (328, 2), (332, 2), (333, 2), (334, 2), (335, 2), (336, 2), (337, 2), (340, 2), (341, 2), (342, 2), (343, 2), (344, 2), (345, 2), (346, 2), (347, 2), (348, 2), (349, 2), (350, 2), (351, 2), (352, 2), (353, 2), (354, 2), (355, 2), (356, 2), (357, 2), (360, 2), (361, 2), (362, 2), (363, 2), (364, 2), (365, 2), (366, 2), (367, 2), (368, 2), (369, 2), (370, 2), (371, 2), (372, 2), (373, 2), (374, 2), (375, 2), (376, 2), (377, 2), (378, 2), (379, 2), (380, 2), (381, 2), (382, 2)]
def letL : List (Nat × Nat) := [(65, 1), (65, 1), (65, 1), (65, 1), (65, 1), (65, 1), (67, 1), (69, 1), (69, 1), (69, 1), (69, 1), (73, 1), (73, 1), (73, 1), (73, 1), (78, 1), (79, 1), (79, 1), (79, 1), (79, 1), (79, 1), (85, 1), (85, 1), (85, 1), (85, 1), (89, 1), (97, 1), (97, 1), (97, 1), (97, 1), (97, 1), (97, 1), (99, 1), (101, 1), (101, 1), (101, 1), (101, 1), (105, 1), (105, 1), (105, 1), (105, 1), (110, 1), (111, 1), (111, 1), (111, 1), (111, 1), (111, 1), (117, 1), (117, 1), (117, 1), (117, 1), (121, 1), (121, 1), (65, 1), (97, 1), (65, 1), (97, 1), (65, 1), (97, 1), (67, 1), (99, 1), (67, 1), (99, 1), (67, 1), (99, 1), (67, 1), (99, 1), (68, 1), (100, 1), (69, 1), (101, 1), (69, 1), (101, 1), (69, 1), (101, 1), (69, 1), (101, 1), (69, 1), (101, 1), (71, 1), (103, 1), (71, 1), (103, 1), (71, 1), (103, 1), (71, 1), (103, 1), (72, 1), (104, 1), (73, 1), (105, 1), (73, 1), (105, 1), (73, 1), (105, 1), (73, 1), (105, 1), (73, 1), (74, 1), (106, 1), (75, 1), (107, 1), (76, 1), (108, 1), (76, 1), (108, 1), (76, 1), (108, 1), (78, 1), (110, 1), (78, 1), (110, 1), (78, 1), (110, 1), (79, 1), (111, 1), (79, 1), (111, 1), (79, 1), (111, 1), (82, 1), (114, 1), (82, 1), (114, 1), (82, 1), (114, 1), (83, 1), (115, 1), (83, 1), (115, 1), (83, 1), (115, 1), (83, 1), (115, 1), (84, 1), (116, 1), (84, 1), (116, 1), (85, 1), (117, 1), (85, 1), (117, 1), (85, 1), (117, 1), (85, 1), (117, 1), (85, 1), (117, 1), (85, 1), (117, 1), (87, 1), (119, 1), (89, 1), (121, 1), (89, 1), (90, 1), (122, 1), (90, 1), (122, 1), (90, 1), (122, 1)]
def mrkL : List (Nat × Nat) := [(768, 2), (769, 2), (770, 2), (771, 2), (776, 2), (778, 2), (807, 2), (768, 2), (769, 2), (770, 2), (776, 2), (768, 2), (769, 2), (770, 2), (776, 2), (771, 2), (768, 2), (769, 2), (770, 2), (771, 2), (776, 2), (768, 2), (769, 2), (770, 2), (776, 2), (769, 2), (768, 2), (769, 2), (770, 2), (771, 2), (776, 2), (778, 2), (807, 2), (768, 2), (769, 2), (770, 2), (776, 2), (768, 2), (769, 2), (770, 2), (776, 2), (771, 2), (768, 2), (769, 2), (770, 2), (771, 2), (776, 2), (768, 2), (769, 2), (770, 2), (776, 2), (769, 2), (776, 2), (772, 2), (772, 2), (774, 2), (774, 2), (808, 2), (808, 2), (769, 2), (769, 2), (770, 2), (770, 2), (775, 2), (775, 2), (780, 2), (780, 2), (780, 2), (780, 2), (772, 2), (772, 2), (774, 2), (774, 2), (775, 2), (775, 2), (808, 2), (808, 2), (780, 2), (780, 2), (770, 2), (770, 2), (774, 2), (774, 2), (775, 2), (775, 2), (807, 2), (807, 2), (770, 2), (770, 2), (771, 2), (771, 2), (772, 2), (772, 2), (774, 2), (774, 2), (808, 2), (808, 2), (775, 2), (770, 2), (770, 2), (807, 2), (807, 2), (769, 2), (769, 2), (807, 2), (807, 2), (780, 2), (780, 2), (769, 2), (769, 2), (807, 2), (807, 2), (780, 2), (780, 2), (772, 2), (772, 2), (774, 2), (774, 2), (779, 2), (779, 2), (769, 2), (769, 2), (807, 2), (807, 2), (780, 2), (780, 2), (769, 2), (769, 2), (770, 2), (770, 2), (807, 2), (807, 2), (780, 2), (780, 2), (807, 2), (807, 2), (780, 2), (780, 2), (771, 2), (771, 2), (772, 2), (772, 2), (774, 2), (774, 2), (778, 2), (778, 2), (779, 2), (779, 2), (808, 2), (808, 2), (770, 2), (770, 2), (770, 2), (770, 2), (776, 2), (769, 2), (769, 2), (775, 2), (775, 2), (780, 2), (780, 2)]
abbrev cmpS : ByteArray := ⟨#[195, 128, 195, 129, 195, 130, 195, 131, 195, 132, 195, 133, 195, 135, 195, 136, 195, 137, 195, 138, 195, 139, 195, 140, 195, 141, 195, 142, 195, 143, 195, 145, 195, 146, 195, 147, 195, 148, 195, 149, 195, 150, 195, 153, 195, 154, 195, 155, 195, 156, 195, 157, 195, 160, 195, 161, 195, 162, 195, 163, 195, 164, 195, 165, 195, 167, 195, 168, 195, 169, 195, 170, 195, 171, 195, 172, 195, 173, 195, 174, 195, 175, 195, 177, 195, 178, 195, 179, 195, 180, 195, 181, 195, 182, 195, 185, 195, 186, 195, 187, 195, 188, 195, 189, 195, 191, 196, 128, 196, 129, 196, 130, 196, 131, 196, 132, 196, 133, 196, 134, 196, 135, 196, 136, 196, 137, 196, 138, 196, 139, 196, 140, 196, 141, 196, 142, 196, 143, 196, 146, 196, 147, 196, 148, 196, 149, 196, 150, 196, 151, 196, 152, 196, 153, 196, 154, 196, 155, 196, 156, 196, 157, 196, 158, 196, 159, 196, 160, 196, 161, 196, 162, 196, 163, 196, 164, 196, 165, 196, 168, 196, 169, 196, 170, 196, 171, 196, 172, 196, 173, 196, 174, 196, 175, 196, 176, 196, 180, 196, 181, 196, 182, 196, 183, 196, 185, 196, 186, 196, 187, 196, 188, 196, 189, 196, 190, 197, 131, 197, 132, 197, 133, 197, 134, 197, 135, 197, 136, 197, 140, 197, 141, 197, 142, 197, 143, 197, 144, 197, 145, 197, 148, 197, 149, 197, 150, 197, 151, 197, 152, 197, 153, 197, 154, 197, 155, 197, 156, 197, 157, 197, 158, 197, 159, 197, 160, 197, 161, 197, 162, 197, 163, 197, 164, 197, 165, 197, 168, 197, 169, 197, 170, 197, 171, 197, 172, 197, 173, 197, 174, 197, 175, 197, 176, 197, 177, 197, 178, 197, 179, 197, 180, 197, 181, 197, 182, 197, 183, 197, 184, 197, 185, 197, 186, 197, 187, 197, 188, 197, 189, 197, 190]⟩
abbrev letS : ByteArray := ⟨#[65, 65, 65, 65, 65, 65, 67, 69, 69, 69, 69, 73, 73, 73, 73, 78, 79, 79, 79, 79, 79, 85, 85, 85, 85, 89, 97, 97, 97, 97, 97, 97, 99, 101, 101, 101, 101, 105, 105, 105, 105, 110, 111, 111, 111, 111, 111, 117, 117, 117, 117, 121, 121, 65, 97, 65, 97, 65, 97, 67, 99, 67, 99, 67, 99, 67, 99, 68, 100, 69, 101, 69, 101, 69, 101, 69, 101, 69, 101, 71, 103, 71, 103, 71, 103, 71, 103, 72, 104, 73, 105, 73, 105, 73, 105, 73, 105, 73, 74, 106, 75, 107, 76, 108, 76, 108, 76, 108, 78, 110, 78, 110, 78, 110, 79, 111, 79, 111, 79, 111, 82, 114, 82, 114, 82, 114, 83, 115, 83, 115, 83, 115, 83, 115, 84, 116, 84, 116, 85, 117, 85, 117, 85, 117, 85, 117, 85, 117, 85, 117, 87, 119, 89, 121, 89, 90, 122, 90, 122, 90, 122]⟩
abbrev mrkS : ByteArray := ⟨#[204, 128, 204, 129, 204, 130, 204, 131, 204, 136, 204, 138, 204, 167, 204, 128, 204, 129, 204, 130, 204, 136, 204, 128, 204, 129, 204, 130, 204, 136, 204, 131, 204, 128, 204, 129, 204, 130, 204, 131, 204, 136, 204, 128, 204, 129, 204, 130, 204, 136, 204, 129, 204, 128, 204, 129, 204, 130, 204, 131, 204, 136, 204, 138, 204, 167, 204, 128, 204, 129, 204, 130, 204, 136, 204, 128, 204, 129, 204, 130, 204, 136, 204, 131, 204, 128, 204, 129, 204, 130, 204, 131, 204, 136, 204, 128, 204, 129, 204, 130, 204, 136, 204, 129, 204, 136, 204, 132, 204, 132, 204, 134, 204, 134, 204, 168, 204, 168, 204, 129, 204, 129, 204, 130, 204, 130, 204, 135, 204, 135, 204, 140, 204, 140, 204, 140, 204, 140, 204, 132, 204, 132, 204, 134, 204, 134, 204, 135, 204, 135, 204, 168, 204, 168, 204, 140, 204, 140, 204, 130, 204, 130, 204, 134, 204, 134, 204, 135, 204, 135, 204, 167, 204, 167, 204, 130, 204, 130, 204, 131, 204, 131, 204, 132, 204, 132, 204, 134, 204, 134, 204, 168, 204, 168, 204, 135, 204, 130, 204, 130, 204, 167, 204, 167, 204, 129, 204, 129, 204, 167, 204, 167, 204, 140, 204, 140, 204, 129, 204, 129, 204, 167, 204, 167, 204, 140, 204, 140, 204, 132, 204, 132, 204, 134, 204, 134, 204, 139, 204, 139, 204, 129, 204, 129, 204, 167, 204, 167, 204, 140, 204, 140, 204, 129, 204, 129, 204, 130, 204, 130, 204, 167, 204, 167, 204, 140, 204, 140, 204, 167, 204, 167, 204, 140, 204, 140, 204, 131, 204, 131, 204, 132, 204, 132, 204, 134, 204, 134, 204, 138, 204, 138, 204, 139, 204, 139, 204, 168, 204, 168, 204, 130, 204, 130, 204, 130, 204, 130, 204, 136, 204, 129, 204, 129, 204, 135, 204, 135, 204, 140, 204, 140]⟩
theorem cmp_spells : Spells cmpS 0 cmpL = true := by decide +kernel
theorem let_spells : Spells letS 0 letL = true := by decide +kernel
theorem mrk_spells : Spells mrkS 0 mrkL = true := by decide +kernel
set_option maxRecDepth 100000 in
theorem CmpP (w : World) : Calls Tryd.prog 113 #[] w fun e w' => e = .returned (.string cmpS) ∧ w = w' := by
  go_enter Tryd.func113, Tryd.ntmps113; go_wp2; go_ret; exact ⟨rfl, rfl⟩
set_option maxRecDepth 100000 in
theorem LetP (w : World) : Calls Tryd.prog 115 #[] w fun e w' => e = .returned (.string letS) ∧ w = w' := by
  go_enter Tryd.func115, Tryd.ntmps115; go_wp2; go_ret; exact ⟨rfl, rfl⟩
set_option maxRecDepth 100000 in
theorem MrkP (w : World) : Calls Tryd.prog 116 #[] w fun e w' => e = .returned (.string mrkS) ∧ w = w' := by
  go_enter Tryd.func116, Tryd.ntmps116; go_wp2; go_ret; exact ⟨rfl, rfl⟩
def fewU (r : Int) : Int × Int × Int := (tremaref02_few.f r).getD (0, 0, 0)
theorem ite_ex {c : Prop} [Decidable c] {α : Type} {a b : Option α} (h1 : ∃ x, a = some x) (h2 : ∃ x, b = some x) : ∃ x, (if c then a else b) = some x := by
  by_cases h : c
  · rw [if_pos h]; exact h1
  · rw [if_neg h]; exact h2
theorem few_ex (r : Int) : ∃ x, tremaref02_few.f r = some x := by
  unfold tremaref02_few.f; repeat' (first | exact ⟨_, rfl⟩ | refine ite_ex ?_ ?_)
theorem few_some (r : Int) : tremaref02_few.f r = some (fewU r) := by
  obtain ⟨x, h⟩ := few_ex r; unfold fewU; rw [h]
  rfl
def refU (r : Int) : Int × Int × Int := if 0 ≤ fndF r 0 (-1) cmpL then (nthF (fndF r 0 (-1) cmpL) 0 letL, nthF (fndF r 0 (-1) cmpL) 0 mrkL, 2) else fewU r
theorem in_eq (r lo hi : Int) : tremaref02_in.f r lo hi = some (decide (lo ≤ r ∧ r ≤ hi)) := by
  unfold tremaref02_in.f; by_cases c : lo ≤ r
  · rw [if_pos c]; congr 1; rw [decide_eq_decide]; omega
  · rw [if_neg c]; congr 1; symm; rw [decide_eq_false_iff_not]; omega
theorem InP (w : World) (r lo hi : Int) (b : Bool) (hb : decide (lo ≤ r ∧ r ≤ hi) = b) : Calls Tryd.prog 88 #[.int .i32 r, .int .i32 lo, .int .i32 hi] w fun e w' => e = .returned (.bool b) ∧ Below w.heap.size w w' := by
  subst hb; exact (tremaref02_in.calls r lo hi _ w (in_eq r lo hi)).mono fun _ _ h => ⟨h.1, h.2.below⟩
theorem FewP (w : World) (r a b c : Int) (h : fewU r = (a, b, c)) : Calls Tryd.prog 117 #[.int .i32 r] w fun e w' => e = .returned (.tuple #[.int .i32 a, .int .i32 b, .int .i64 c]) ∧ Below w.heap.size w w' :=
  (tremaref02_few.calls r a b c w (by rw [few_some, h])).mono fun _ _ h => ⟨h.1, h.2.below⟩
set_option maxRecDepth 100000 in
set_option maxHeartbeats 1000000 in
theorem RefSyl (w : World) (s : Nat) (hs : s ≤ 11171) : Calls Tryd.prog 96 #[.int .i32 (44032 + (s : Int))] w fun e w' => e = .returned (.tuple #[.int .i32 (pairU (44032 + (s : Int))).1, .int .i32 (pairU (44032 + (s : Int))).2.1, .int .i64 (pairU (44032 + (s : Int))).2.2]) ∧ Below w.heap.size w w' := by
  have HI := Aside0.mk (InP w (44032 + (s : Int)) 44032 55203 true (decide_eq_true (by omega))); (have t1 : (s : Int).tdiv 588 = ((s / 588 : Nat) : Int) := by rw [Int.tdiv_eq_ediv_of_nonneg (by omega)]; omega); (have t2 : (s : Int).tdiv 28 = ((s / 28 : Nat) : Int) := by rw [Int.tdiv_eq_ediv_of_nonneg (by omega)]; omega); (have t3 : ((s / 28 : Nat) : Int).tmod 21 = ((s / 28 % 21 : Nat) : Int) := by rw [Int.tmod_eq_emod_of_nonneg (by omega)]; omega); (have t4 : (s : Int).tmod 28 = ((s % 28 : Nat) : Int) := by rw [Int.tmod_eq_emod_of_nonneg (by omega)]; omega); (have e1 : 44032 + (s : Int) - 44032 = (s : Int) := by omega); have hP := syl_pair s hs; (have b1 : s / 588 ≤ 18 := by omega); (have b2 : s / 28 % 21 ≤ 20 := by omega); (have b3 : s % 28 ≤ 27 := by omega); (have q1 : s % 588 / 28 = s / 28 % 21 := by omega); (have q2 : 44032 + (s : Int) - ((s % 28 : Nat) : Int) = 44032 + (((s / 588 : Nat) : Int) * 21 + ((s / 28 % 21 : Nat) : Int)) * 28 := by omega); (have q3 : s / 28 ≤ 1000 := by omega); rw [q1, q2] at hP; obtain ⟨x1, hx1⟩ : ∃ x, x = s % 28 := ⟨_, rfl⟩; obtain ⟨x2, hx2⟩ : ∃ x, x = s / 28 % 21 := ⟨_, rfl⟩; obtain ⟨x3, hx3⟩ : ∃ x, x = s / 588 := ⟨_, rfl⟩; obtain ⟨x4, hx4⟩ : ∃ x, x = s / 28 := ⟨_, rfl⟩; rw [← hx1] at t4 b3 hP; rw [← hx2] at t3 b2 hP; rw [← hx3] at t1 b1 hP; rw [← hx4] at t2 t3 q3; have HP := Aside0.mk hP; clear hP hx1 hx2 hx3 hx4 q1 q2; by_cases h : x1 = 0
  · subst h; go_enter Tryd.func96, Tryd.ntmps96; go_wp2_with (first | (go_at_call 88; go_must (refine HI.out.mono ?_; rintro e w1 ⟨rfl, p1⟩; have B1 := Aside0.mk p1; clear p1))); go_ret3; exact ⟨by rw [HP.out]; rfl, B1.out⟩
  · (have h0 : ((x1 : Int) == 0) = false := by simp; omega); go_enter Tryd.func96, Tryd.ntmps96; go_wp2_with (first | (go_at_call 88; go_must (refine HI.out.mono ?_; rintro e w1 ⟨rfl, p1⟩; have B1 := Aside0.mk p1; clear p1))); go_ret3; exact ⟨by rw [HP.out, if_neg h]; rfl, B1.out⟩
set_option maxRecDepth 100000 in
set_option maxHeartbeats 1000000 in
theorem RefTab (w : World) (r : Int) (hr : -2147483648 ≤ r ∧ r ≤ 2147483647) (h : ¬ (44032 ≤ r ∧ r ≤ 55203)) : Calls Tryd.prog 96 #[.int .i32 r] w fun e w' => e = .returned (.tuple #[.int .i32 (refU r).1, .int .i32 (refU r).2.1, .int .i64 (refU r).2.2]) ∧ Below w.heap.size w w' := by
  have HI := Aside0.mk (InP w r 44032 55203 false (decide_eq_false h)); have HU := Aside0.mk (show refU r = if 0 ≤ fndF r 0 (-1) cmpL then (nthF (fndF r 0 (-1) cmpL) 0 letL, nthF (fndF r 0 (-1) cmpL) 0 mrkL, 2) else fewU r from rfl); have HC := Aside0.mk cmp_spells; have HLn := Aside0.mk (show cmpL.length ≤ 1000 by decide); have HCm := Aside0.mk CmpP; have HLe := Aside0.mk LetP; have HMr := Aside0.mk MrkP; have HNl := Aside0.mk (fun W a => NthP W letS letL let_spells (by decide) a); have HNm := Aside0.mk (fun W a => NthP W mrkS mrkL mrk_spells (by decide) a); obtain ⟨cs, hcs⟩ : ∃ x, x = cmpS := ⟨_, rfl⟩; obtain ⟨ls, hls⟩ : ∃ x, x = letS := ⟨_, rfl⟩; obtain ⟨ms, hms⟩ : ∃ x, x = mrkS := ⟨_, rfl⟩; obtain ⟨cl, hcl⟩ : ∃ x, x = cmpL := ⟨_, rfl⟩; rw [← hcs] at HC HCm; rw [← hls] at HLe HNl; rw [← hms] at HMr HNm; rw [← hcl] at HC HU HLn; clear hcs hls hms hcl h; go_enter Tryd.func96, Tryd.ntmps96; go_wp2_with (first | (go_at_call 88; go_must (refine HI.out.mono ?_; rintro e w1 ⟨rfl, p1⟩; have B1 := Aside0.mk p1; clear p1)) | (go_at_call 113; go_must (refine (HCm.out _).mono ?_; rintro e w2 ⟨rfl, rfl⟩))); go_loopw [9, 10, 12] (fun av iv rv wr => ∃ (p : Int) (i pos : Nat) (rest : List (Nat × Nat)), -1 ≤ p ∧ p ≤ 1000 ∧ av = .int .i64 p ∧ iv = .int .i64 i ∧ wr = w1.iter cs pos ∧ Aside0 (Spells cs pos rest = true) ∧ Aside0 (fndF r 0 (-1) cl = fndF r i p rest) ∧ Aside0 (i + rest.length = cl.length)) (fun _ _ _ wr => cs.size - wr.iterPos w1.heap.size)
  case atStart => exact ⟨-1, 0, 0, cl, by decide, by decide, rfl, rfl, rfl, HC, ⟨rfl⟩, ⟨by omega⟩⟩
  case round =>
    obtain ⟨p, i, pos, rest, hp0, hp9, rfl, rfl, rfl, HR, HE, HL⟩ := hrel
    cases rest with
    | nil =>
      have hp := HR.out; simp only [Spells, decide_eq_true_eq] at hp; (have hnx := fun ty => run_next_end (P := Tryd.prog) w1 cs pos ty hp); have he := HE.out; rw [fndF] at he; have hu := HU.out; rw [he] at hu; have NB := Aside0.mk (below_then B1.out B1.out.size (it_below w1 cs pos)); clear hp HR HE he; by_cases h0 : 0 ≤ p
      · rw [if_pos h0] at hu; have HU1 := Aside0.mk hu; have hd : decide (0 ≤ p) = true := decide_eq_true h0; clear hu h0; go_wp2_with (first | (go_at_call 115; go_must (refine (HLe.out _).mono ?_; rintro e w2 ⟨rfl, rfl⟩)) | (go_at_call 116; go_must (refine (HMr.out _).mono ?_; rintro e w2 ⟨rfl, rfl⟩)) | (go_at_call 114; (with_reducible refine (HNl.out _ p).mono ?_); rintro e w3 ⟨rfl, p3⟩; have B3 := Aside0.mk (below_then NB.out NB.out.size p3); clear p3 HNl) | (go_at_call 114; (with_reducible refine (HNm.out _ p).mono ?_); rintro e w4 ⟨rfl, p3⟩; have B4 := Aside0.mk (below_then B3.out B3.out.size p3); clear p3)); go_ret3; exact ⟨by rw [HU1.out]; rfl, B4.out⟩
      · rw [if_neg h0] at hu; obtain ⟨⟨a, b, c⟩, hf⟩ : ∃ x, x = fewU r := ⟨_, rfl⟩; rw [← hf] at hu; have HU1 := Aside0.mk hu; have HF := Aside0.mk (fun W => FewP W r a b c hf.symm); have hd : decide (0 ≤ p) = false := decide_eq_false h0; clear hu h0 hf; go_wp2_with (first | (go_at_call 117; go_must (refine (HF.out _).mono ?_; rintro e w3 ⟨rfl, p3⟩; have B3 := Aside0.mk (below_then NB.out NB.out.size p3); clear p3))); go_ret3; exact ⟨by rw [HU1.out]; rfl, B3.out⟩
    | cons q t =>
      obtain ⟨c, n⟩ := q; have hp := HR.out; simp only [Spells, Bool.and_eq_true, decide_eq_true_eq, beq_iff_eq] at hp; obtain ⟨⟨⟨hp1, hp2⟩, hp3⟩, hp4⟩ := hp; (have hnx := fun ty => run_next_at (P := Tryd.prog) w1 cs pos ty hp1 hp2); have HP4 := Aside0.mk hp4; have HP1 := Aside0.mk hp1; have NB := Aside0.mk (it_below w1 cs (pos + n)); have MU := Aside0.mk (it_pos w1 cs pos); have MU1 := Aside0.mk (it_pos w1 cs (pos + n)); have he := HE.out; rw [fndF] at he; have hll := HL.out; rw [List.length_cons] at hll; have hln := HLn.out; (have hi5 : (i : Int) ≤ 1000 := by omega); clear hp1 hp2 hp4 HR HE hln; by_cases hc : (c : Int) = r
      · rw [if_pos hc] at he; have HE1 := Aside0.mk he; have hd : ((c : Int) == r) = true := beq_iff_eq.2 hc; have HLL := Aside0.mk hll; clear he hll hc; go_wp2; go_roundw
        case rel => exact ⟨i, i + 1, pos + n, t, by omega, by omega, rfl, by go_num, rfl, HP4, ⟨by rw [HE1.out]; push_cast; rfl⟩, ⟨by have := HLL.out; omega⟩⟩
        case measure => rw [MU.out, MU1.out]; have := HP1.out; omega
      · rw [if_neg hc] at he; have HE1 := Aside0.mk he; have hd : ((c : Int) == r) = false := beq_eq_false_iff_ne.2 hc; have HLL := Aside0.mk hll; clear he hll hc; go_wp2; go_roundw
        case rel => exact ⟨p, i + 1, pos + n, t, by omega, by omega, rfl, by go_num, rfl, HP4, ⟨by rw [HE1.out]; push_cast; rfl⟩, ⟨by have := HLL.out; omega⟩⟩
        case measure => rw [MU.out, MU1.out]; have := HP1.out; omega
theorem ref_keys : ∀ r ∈ keys, refU r = pairU r := by decide +kernel
theorem cmp_keys : ∀ p ∈ cmpL, (p.1 : Int) ∈ keys := by decide +kernel
theorem few_keys : ∀ k ∈ prsT.map (·.1), k ∈ keys := fun k hk => List.mem_append_right _ hk
theorem fnd_none (r : Int) : ∀ (l : List (Nat × Nat)) (i p : Int), (∀ q ∈ l, (q.1 : Int) ≠ r) → fndF r i p l = p
  | [], _, _, _ => rfl
  | (c, n) :: t, i, p, h => by
    rw [fndF, if_neg (h (c, n) (List.mem_cons_self ..)), fnd_none r t _ _ (fun q hq => h q (List.mem_cons_of_mem _ hq))]
theorem few_none (r : Int) (h : r ∉ prsT.map (·.1)) : fewU r = (0, 0, 0) := by
  (have e : ∀ k : Int, k ∈ prsT.map (·.1) → (r = k) = False := fun k hk => by simp; intro e; exact h (e ▸ hk)); unfold fewU tremaref02_few.f; simp [prsT] at h; simp [h]
theorem ref_pair (r : Int) (h : ¬ (44032 ≤ r ∧ r ≤ 55203)) : refU r = pairU r := by
  by_cases hk : r ∈ keys
  · exact ref_keys r hk
  · rw [pair_zero r h hk]; have h1 : fndF r 0 (-1) cmpL = -1 := fnd_none r _ _ _ (fun q hq e => hk (e ▸ cmp_keys q hq)); unfold refU; rw [h1, if_neg (by decide)]; exact few_none r (fun hm => hk (few_keys r hm))
theorem RefPairP (w : World) (r : Int) (hr : -2147483648 ≤ r ∧ r ≤ 2147483647) : Calls Tryd.prog 96 #[.int .i32 r] w fun e w' => e = .returned (.tuple #[.int .i32 (pairU r).1, .int .i32 (pairU r).2.1, .int .i64 (pairU r).2.2]) ∧ Below w.heap.size w w' := by
  by_cases h : 44032 ≤ r ∧ r ≤ 55203
  · have := RefSyl w (r - 44032).toNat (by omega); rw [show 44032 + ((r - 44032).toNat : Int) = r by omega] at this; exact this
  · have := RefTab w r hr h; rw [ref_pair r h] at this; exact this
end Go.Proofs.YthffpkdadffinaaDoor.Vi
namespace Go.Proofs.YthffpkdadffinaaDoor.X
set_option linter.unusedVariables false
set_option linter.unusedSimpArgs false
open Go.RowKit YthffpkdadffinaaDoorW.PrintWords
def tremaref02_Pair.f (a0 : Int) : Option (Int × Int × Int) := if -2147483648 ≤ a0 ∧ a0 ≤ 2147483647 then some (Vc.pairU a0) else none
theorem tremaref02_Pair.calls (a0 : Int) (r1 r2 r3 : Int) (w : World) (h : tremaref02_Pair.f a0 = some (r1, r2, r3)) : Calls Tryd.prog 96 #[.int .i32 a0] w fun e w' => e = .returned (.tuple #[.int .i32 r1, .int .i32 r2, .int .i64 r3]) ∧ Below w.heap.size w w' := by
  unfold tremaref02_Pair.f at h; split at h
  · rename_i hr; have e := Option.some.inj h; have := Vi.RefPairP w a0 hr; rw [e] at this; exact this
  · cases h
end Go.Proofs.YthffpkdadffinaaDoor.X
