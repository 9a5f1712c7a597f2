/-
  The plain laws of ucd: fixed, UcdMarks, UcdBottom, UcdFolded.
-/
import Derived.Test.YtfiihlgigeijcaaDoorVf
import Derived.Test.YtfiihlgigeijcaaDoorEv
import Derived.Test.YtfiihlgigeijcaaDoorXtremalaw02fixed
import Derived.Test.YtfiihlgigeijcaaDoorXtremalaw02UcdMarks
import Derived.Test.YtfiihlgigeijcaaDoorXtremalaw02UcdBottom
import Derived.Test.YtfiihlgigeijcaaDoorXtremalaw02UcdFolded
namespace Go.Proofs.YtfiihlgigeijcaaDoor.Vp
set_option linter.unusedVariables false
set_option linter.unusedSimpArgs false
open Go.RowKit Go.Proofs.YtfiihlgigeijcaaDoorW.PrintWords Go.Proofs.YtfiihlgigeijcaaDoor.Ev0 Go.Proofs.YtfiihlgigeijcaaDoor.X Go.Proofs.YtfiihlgigeijcaaDoor.Va Go.Proofs.YtfiihlgigeijcaaDoor.Vb Go.Proofs.YtfiihlgigeijcaaDoor.Vc Go.Proofs.YtfiihlgigeijcaaDoor.Vd Go.Proofs.YtfiihlgigeijcaaDoor.Ve Go.Proofs.YtfiihlgigeijcaaDoor.Vf

theorem fix_pure : tremalaw02_fixed.f 20 = some true := by decide +kernel
theorem fixEv : Ev (fun k => tremalaw02_fixed.f k) true := Ev.of tremalaw02_fixed.mono fix_pure
theorem foldEv (r : Int) : Ev (fun k => ucd_Fold.f k r) (foldU r) := Ev.of (ucd_Fold.mono r) (fold_some r)
theorem sameEv (l m : List Int) (hl : l.length ≤ 1000000000) : Ev (fun k => tremaref01_SameRunes.f k l m) (decide (l = m)) := Ev.of (tremaref01_SameRunes.mono l m) (same_pure l m hl)
def I32 (x : Int) : Prop := -2147483648 ≤ x ∧ x ≤ 2147483647
theorem wf32 {x : Int} (h : (Lit.int .i32 x).wf = true) : I32 x := by
  simp [Lit.wf] at h
  have e1 : IntKind.i32.min = -2147483648 := by decide
  have e2 : IntKind.i32.max = 2147483647 := by decide
  unfold I32
  omega

/-! marks -/
theorem clsF_in (r : Int) : ∀ l : List (Int × Int × Int), clsF r l ≠ 0 → ∃ p ∈ l, p.1 ≤ r ∧ r ≤ p.2.1
  | [], h => absurd rfl h
  | p :: t, h => by
    rw [clsF] at h
    by_cases c : p.1 ≤ r ∧ r ≤ p.2.1
    · exact ⟨p, List.mem_cons_self .., c⟩
    · rw [if_neg c] at h
      obtain ⟨q, hq, h2⟩ := clsF_in r t h
      exact ⟨q, List.mem_cons_of_mem _ hq, h2⟩
def spread (l : List (Int × Int × Int)) : List Int := l.flatMap fun p => (List.range ((p.2.1 - p.1).toNat + 1)).map fun k : Nat => p.1 + (k : Int)
theorem cls_spread (r : Int) (h : cls r ≠ 0) : r ∈ spread clsT := by
  obtain ⟨p, hp, h1, h2⟩ := clsF_in r clsT h
  refine List.mem_flatMap.2 ⟨p, hp, List.mem_map.2 ⟨(r - p.1).toNat, List.mem_range.2 (by omega), by omega⟩⟩
theorem marks_all : ∀ r ∈ spread clsT, cls r ≠ 0 → cat r = 2 ∧ trl r = false ∧ 1 ≤ cls r ∧ cls r ≤ 254 ∧ opn r = false := by decide +kernel
theorem marks_law (r : Int) (h : cls r ≠ 0) : cat r = 2 ∧ trl r = false ∧ 1 ≤ cls r ∧ cls r ≤ 254 ∧ opn r = false := marks_all r (cls_spread r h) h
theorem UcdMarks (l : List Int) (hwf : ∀ x ∈ l, (Lit.int .i32 x).wf = true) (hl : l.length * 4 ≤ 140737488351232) : ∃ k, tremalaw02_UcdMarks.f k l = some true := by
  apply Ev.rounds (g := fun k => tremalaw02_UcdMarks.f k l)
  unfold tremalaw02_UcdMarks.f
  refine Ev.bind fixEv ?_
  simp only [if_true]
  refine ev_list (l := l) (F := fun k i => tremalaw02_UcdMarks.l0 k l (l.length : Int) i) ?_ ?_
  · refine Ev.step (fun k => tremalaw02_UcdMarks.l0.eq_2 ..) ?_
    simp only [if_neg (Int.lt_irrefl _)]
    exact Ev.now _
  · intro i x hi hx hrd ih
    have c1 : (i : Int) < (l.length : Int) := by omega
    have c2 : (0 : Int) ≤ (i : Int) := by omega
    have hw := w64 (i := i) (by omega)
    have hx32 := wf32 (hwf x hx)
    unfold I32 at hx32
    refine Ev.step (fun k => tremalaw02_UcdMarks.l0.eq_2 ..) ?_
    simp only [if_pos c1, if_pos c2, hrd, ucd_Class.f, Option.bind_some, hw]
    by_cases h0 : cls x = 0
    · simp only [if_pos h0]
      exact ih
    · obtain ⟨m1, m2, m3, m4, m5⟩ := marks_law x h0
      simp only [if_neg h0, ucd_Category.f, Option.bind_some, if_pos m1, trl_pure, m2, ucd_Opens.f, if_pos hx32, m5, if_neg (show ¬ cls x < 1 by omega), if_neg (show ¬ cls x > 254 by omega), if_neg Bool.false_ne_true]
      exact ih

/-! the bottom -/
theorem dec_zero (r : Int) (h : pairU r = (0, 0, 0)) : decU r = [r] := decF_zero 4 r h
theorem opn_zero (r : Int) (h : pairU r = (0, 0, 0)) : opn r = ((cls r == 0) && !trl r) := by unfold opn; rw [dec_zero r h]; rfl
def botB (r : Int) : Bool := decide (1 ≤ (decU r).length ∧ (decU r).length ≤ 3) && (decU r).all (fun x => decide ((pairU x) = (0, 0, 0)) && decide (0 ≤ x ∧ x < 65536)) && ((decU r).drop 1).all (fun x => !opn x)
theorem bot_keys : ∀ r ∈ keys, botB r = true := by decide +kernel
theorem jamo_shut (r : Int) (h : 4449 ≤ r ∧ r ≤ 4469 ∨ 4520 ≤ r ∧ r ≤ 4546) : opn r = false := by
  rw [opn_zero r (jamo_zero r (by omega))]
  have : trl r = true := by unfold trl; exact decide_eq_true h
  rw [this]; simp
theorem syl_dec (s : Nat) (hs : s ≤ 11171) : decU (44032 + (s : Int)) = [4352 + ((s / 588 : Nat) : Int), 4449 + ((s % 588 / 28 : Nat) : Int)] ++ if s % 28 = 0 then [] else [4519 + ((s % 28 : Nat) : Int)] := (syl_all s hs 2).2
structure Bot (r : Int) : Prop where
  lo : 1 ≤ (decU r).length
  hi : (decU r).length ≤ 3
  zero : ∀ x ∈ decU r, pairU x = (0, 0, 0)
  rng : ∀ x ∈ decU r, I32 x
  shut : ∀ x ∈ (decU r).drop 1, opn x = false
theorem bottom (r : Int) (hr : I32 r) : Bot r := by
  rcases cases3 r with h | ⟨s, hs, rfl⟩ | h
  · have := bot_keys r h
    simp only [botB, Bool.and_eq_true, decide_eq_true_eq, List.all_eq_true, Bool.not_eq_true'] at this
    obtain ⟨⟨⟨h1, h2⟩, h3⟩, h4⟩ := this
    exact ⟨h1, h2, fun x hx => (h3 x hx).1, fun x hx => by have := (h3 x hx).2; unfold I32; omega, h4⟩
  · have hd := syl_dec s hs
    have z1 := jamo_zero (4352 + ((s / 588 : Nat) : Int)) (by omega)
    have z2 := jamo_zero (4449 + ((s % 588 / 28 : Nat) : Int)) (by omega)
    have z3 := jamo_zero (4519 + ((s % 28 : Nat) : Int)) (by omega)
    by_cases ht : s % 28 = 0
    · rw [if_pos ht, List.append_nil] at hd
      refine ⟨by rw [hd]; simp, by rw [hd]; simp, ?_, ?_, ?_⟩
      · rw [hd]; intro x hx; simp at hx; rcases hx with rfl | rfl; exact z1; exact z2
      · rw [hd]; intro x hx; simp at hx; unfold I32; rcases hx with rfl | rfl <;> omega
      · rw [hd]; intro x hx; simp at hx; subst hx; exact jamo_shut _ (by omega)
    · rw [if_neg ht] at hd
      refine ⟨by rw [hd]; simp, by rw [hd]; simp, ?_, ?_, ?_⟩
      · rw [hd]; intro x hx; simp at hx; rcases hx with rfl | rfl | rfl; exact z1; exact z2; exact z3
      · rw [hd]; intro x hx; simp at hx; unfold I32; rcases hx with rfl | rfl | rfl <;> omega
      · rw [hd]; intro x hx; simp at hx; rcases hx with rfl | rfl <;> exact jamo_shut _ (by omega)
  · have hd := dec_zero r h
    refine ⟨by rw [hd]; simp, by rw [hd]; simp, ?_, ?_, ?_⟩
    · rw [hd]; intro x hx; simp at hx; subst hx; exact h
    · rw [hd]; intro x hx; simp at hx; subst hx; exact hr
    · rw [hd]; simp
theorem opn_first (r : Int) (hr : I32 r) : opn ((decU r).getD 0 0) = opn r := by
  have hb := bottom r hr
  have hm : (decU r).getD 0 0 ∈ decU r := by
    have := hb.lo
    rw [List.getD_eq_getElem?_getD, List.getElem?_eq_getElem (by omega)]
    exact List.getElem_mem _
  rw [opn_zero _ (hb.zero _ hm)]
  rfl
theorem UcdBottom (l : List Int) (hwf : ∀ x ∈ l, (Lit.int .i32 x).wf = true) (hl : l.length * 4 ≤ 140737488351232) : ∃ k, tremalaw02_UcdBottom.f k l = some true := by
  apply Ev.rounds (g := fun k => tremalaw02_UcdBottom.f k l)
  unfold tremalaw02_UcdBottom.f
  refine Ev.bind fixEv ?_
  simp only [if_true]
  refine ev_list (l := l) (F := fun k i => tremalaw02_UcdBottom.l0 k l (l.length : Int) i) ?_ ?_
  · refine Ev.step (fun k => tremalaw02_UcdBottom.l0.eq_2 ..) ?_
    simp only [if_neg (Int.lt_irrefl _)]
    exact Ev.now _
  · intro i x hi hx hrd ih
    have c1 : (i : Int) < (l.length : Int) := by omega
    have c2 : (0 : Int) ≤ (i : Int) := by omega
    have hw := w64 (i := i) (by omega)
    have hx32 := wf32 (hwf x hx)
    have hb := bottom x hx32
    have ho := opn_first x hx32
    unfold I32 at hx32
    refine Ev.step (fun k => tremalaw02_UcdBottom.l0.eq_2 ..) ?_
    simp only [if_pos c1, if_pos c2, hrd, ucd_Decompose.f, if_pos hx32, Option.bind_some]
    obtain ⟨d, hd⟩ : ∃ d, d = decU x := ⟨_, rfl⟩
    have h1 := hb.lo
    have h2 := hb.hi
    have h3 := hb.zero
    have h4 := hb.rng
    have h5 := hb.shut
    rw [← hd] at h1 h2 h3 h4 h5 ho ⊢
    simp only [if_neg (show ¬ (d.length : Int) < 1 by omega), decide_eq_false (show ¬ (d.length : Int) > 3 by omega)]
    refine Ev.step (fun k => tremalaw02_UcdBottom.j1.eq_2 ..) ?_
    simp only [if_neg Bool.false_ne_true]
    refine ev_list (l := d) (F := fun k j => tremalaw02_UcdBottom.l1 k x d l (l.length : Int) (i : Int) d (d.length : Int) j) ?_ ?_
    · refine Ev.step (fun k => tremalaw02_UcdBottom.l1.eq_2 ..) ?_
      have hr0 : rd d 0 = d.getD 0 0 := rfl
      have hd0 : I32 (d.getD 0 0) := h4 _ (by rw [List.getD_eq_getElem?_getD, List.getElem?_eq_getElem (by omega)]; exact List.getElem_mem _)
      unfold I32 at hd0
      simp only [if_neg (Int.lt_irrefl _), ucd_Opens.f, if_pos hx32, Option.bind_some, if_pos (show (0 : Int) < (d.length : Int) by omega), hr0, if_pos hd0, ho, bne_self_eq_false, if_neg Bool.false_ne_true, hw]
      exact ih
    · intro j y hj hy hrd2 ih2
      have e1 : (j : Int) < (d.length : Int) := by omega
      have e2 : (0 : Int) ≤ (j : Int) := by omega
      have hw2 := w64 (i := j) (by omega)
      have hz := h3 y hy
      have hy32 := h4 y hy
      unfold I32 at hy32
      refine Ev.step (fun k => tremalaw02_UcdBottom.l1.eq_2 ..) ?_
      simp only [if_pos e1, if_pos e2, hrd2, ucd_Pair.f, if_pos hy32, Option.bind_some, hz, if_true, hw2]
      by_cases hj0 : (j : Int) > 0
      · have hsh : opn y = false := h5 y (by
          obtain ⟨m, rfl⟩ : ∃ m, j = m + 1 := ⟨j - 1, by omega⟩
          rw [← hrd2, rd_nat hj]
          refine List.mem_iff_getElem.2 ⟨m, by rw [List.length_drop]; omega, ?_⟩
          rw [List.getElem_drop]
          congr 1
          omega)
        simp only [if_pos hj0, ucd_Opens.f, if_pos hy32, Option.bind_some, hsh, if_neg Bool.false_ne_true]
        exact ih2
      · simp only [if_neg hj0]
        exact ih2

/-! folded -/
theorem fold_len1 : allB (fun r => decide ((foldU r).length ≤ 2)) 13 0 = true := by decide +kernel
theorem fold_len2 : allB (fun r => decide ((foldU r).length ≤ 2)) 9 8192 = true := by decide +kernel
theorem fold_len (r : Int) : (foldU r).length ≤ 2 := by
  by_cases h : r < 65 ∨ 8492 ≤ r
  · have : foldU r = [r] := by unfold foldU; rw [fold_out r h]; rfl
    rw [this]; simp
  · by_cases h2 : r < 8192
    · exact of_decide_eq_true (allB_at _ 13 0 fold_len1 r (by omega) (by omega))
    · exact of_decide_eq_true (allB_at _ 9 8192 fold_len2 r (by omega) (by omega))
theorem UcdFolded (l : List Int) (hwf : ∀ x ∈ l, (Lit.int .i32 x).wf = true) (hl : l.length * 4 ≤ 140737488351232) : ∃ k, tremalaw02_UcdFolded.f k l = some true := by
  apply Ev.rounds (g := fun k => tremalaw02_UcdFolded.f k l)
  unfold tremalaw02_UcdFolded.f
  refine Ev.bind fixEv ?_
  simp only [if_true]
  refine ev_list (l := l) (F := fun k i => tremalaw02_UcdFolded.l0 k l (l.length : Int) i) ?_ ?_
  · refine Ev.step (fun k => tremalaw02_UcdFolded.l0.eq_2 ..) ?_
    simp only [if_neg (Int.lt_irrefl _)]
    exact Ev.now _
  · intro i x hi hx hrd ih
    have c1 : (i : Int) < (l.length : Int) := by omega
    have c2 : (0 : Int) ≤ (i : Int) := by omega
    have hw := w64 (i := i) (by omega)
    refine Ev.step (fun k => tremalaw02_UcdFolded.l0.eq_2 ..) ?_
    simp only [if_pos c1, if_pos c2, hrd]
    refine Ev.bind (foldEv x) ?_
    have hff := fold_fold x
    have hlen := fold_len x
    obtain ⟨d, hd⟩ : ∃ d, d = foldU x := ⟨_, rfl⟩
    rw [← hd] at hff hlen ⊢
    refine ev_list (l := d) (F := fun k j => tremalaw02_UcdFolded.l1 k l (l.length : Int) (i : Int) d (d.length : Int) j) ?_ ?_
    · refine Ev.step (fun k => tremalaw02_UcdFolded.l1.eq_2 ..) ?_
      simp only [if_neg (Int.lt_irrefl _), hw]
      exact ih
    · intro j y hj hy hrd2 ih2
      have e1 : (j : Int) < (d.length : Int) := by omega
      have e2 : (0 : Int) ≤ (j : Int) := by omega
      have hw2 := w64 (i := j) (by omega)
      refine Ev.step (fun k => tremalaw02_UcdFolded.l1.eq_2 ..) ?_
      simp only [if_pos e1, if_pos e2, hrd2, hw2]
      refine Ev.bind (foldEv y) ?_
      rw [hff y hy]
      refine Ev.bind (sameEv [y] [y] (by simp)) ?_
      simp only [decide_true, if_true]
      exact ih2
end Go.Proofs.YtfiihlgigeijcaaDoor.Vp
