/-
  ucd.Opens, ucd.Named, ucd.Fold, SameRunes.
-/
import Derived.Test.YtfiihlgigeijcaaDoorVb
import Derived.Test.YtfiihlgigeijcaaDoorVd
import Derived.Test.YtfiihlgigeijcaaDoorXucdFold
import Derived.Test.YtfiihlgigeijcaaDoorXtremaref01SameRunes
import Derived.Test.YtfiihlgigeijcaaDoorXucdTrailing
namespace Go.Proofs.YtfiihlgigeijcaaDoor.Ve
set_option linter.unusedVariables false
set_option linter.unusedSimpArgs false
open Go.RowKit Go.Proofs.YtfiihlgigeijcaaDoorW.PrintWords Go.Proofs.YtfiihlgigeijcaaDoor.Hp Go.Proofs.YtfiihlgigeijcaaDoor.Va Go.Proofs.YtfiihlgigeijcaaDoor.Vb Go.Proofs.YtfiihlgigeijcaaDoor.Vc Go.Proofs.YtfiihlgigeijcaaDoor.Vd Go.Proofs.YtfiihlgigeijcaaDoor.X

/-! trailing, opening -/
def trl (r : Int) : Bool := decide (4449 ≤ r ∧ r ≤ 4469 ∨ 4520 ≤ r ∧ r ≤ 4546)
theorem trl_pure (r : Int) : ucd_Trailing.f r = some (trl r) := by
  unfold ucd_Trailing.f trl
  split
  · split
    · congr 1; symm; rw [decide_eq_true_eq]; omega
    · split
      · congr 1; rw [decide_eq_decide]; omega
      · congr 1; symm; rw [decide_eq_false_iff_not]; omega
  · split
    · congr 1; rw [decide_eq_decide]; omega
    · congr 1; symm; rw [decide_eq_false_iff_not]; omega
theorem TrailP (w : World) (r : Int) : Calls Tryd.prog 16 #[.int .i32 r] w fun e w' => e = .returned (.bool (trl r)) ∧ Below w.heap.size w w' :=
  (ucd_Trailing.calls r (trl r) w (trl_pure r)).mono fun _ _ h => ⟨h.1, h.2.below⟩
theorem decF_ne : ∀ (k : Nat) (r : Int), decF k r ≠ []
  | 0, _ => by simp [decF]
  | k + 1, r => by
    have := decF_ne k (pairU r).1
    rw [decF]
    split
    · simp
    · split
      · exact this
      · simp [this]
def opn (r : Int) : Bool := (cls ((decU r).getD 0 0) == 0) && !trl ((decU r).getD 0 0)
theorem intC {w : World} {A : Option Addr} {n : Nat} {xs : List Int} (h : K3.C w A n xs) (j : Nat) (hj : j < n) : ∃ ad, A = some ad ∧ w.cell? (ad.add j) = some (.int .i32 (xs.getD j 0)) := by
  have h1 := (rdint h).2.2 (by omega)
  obtain ⟨ad, h2, h3⟩ := h1
  exact ⟨ad, h2, h3 j hj⟩
theorem intC0 {w : World} {A : Option Addr} {n : Nat} {xs : List Int} (h : K3.C w A n xs) (hn : 0 < n) : ∃ ad, A = some ad ∧ w.cell? ad = some (.int .i32 (xs.getD 0 0)) := by
  obtain ⟨ad, h2, h3⟩ := intC h 0 hn
  exact ⟨ad, h2, h3⟩
set_option maxRecDepth 100000 in
set_option maxHeartbeats 1000000 in
theorem OpensP (w : World) (hG : G w) (r : Int) (hr : -2147483648 ≤ r ∧ r ≤ 2147483647) : Calls Tryd.prog 23 #[.int .i32 r] w fun e w' => e = .returned (.bool (opn r)) ∧ Below w.heap.size w w' := by
  have HG := Aside0.mk hG
  have HD := Aside0.mk (DecP w hG r hr)
  have HNE := Aside0.mk (decF_ne 4 r)
  have HO := Aside0.mk (show opn r = ((cls ((decU r).getD 0 0) == 0) && !trl ((decU r).getD 0 0)) from rfl)
  clear hG hr
  obtain ⟨l, hl⟩ : ∃ l, l = decU r := ⟨_, rfl⟩
  rw [show decF 4 r = decU r from rfl, ← hl] at HNE
  rw [← hl] at HD HO
  clear hl
  obtain ⟨n, hn⟩ : ∃ n, n = l.length := ⟨_, rfl⟩
  have hn0 : 0 < n := by rw [hn]; exact List.length_pos_iff.2 HNE.out
  obtain ⟨x, hx⟩ : ∃ x, x = l.getD 0 0 := ⟨_, rfl⟩
  rw [← hx] at HO
  have HN := Aside0.mk hn
  have HX := Aside0.mk hx
  clear hn hx
  cases hc : (cls x == 0) with
  | true =>
    rw [hc, Bool.true_and] at HO
    go_enter Tryd.func23, Tryd.ntmps23
    go_wp2_with (first | (go_at_call 21; go_must (refine HD.out.mono ?_; rintro e w1 ⟨v1, rfl, r1, p1⟩; obtain ⟨A1, c1, rfl, hc1, hC1⟩ := Kd.R_reads r1; have HB := Aside0.mk p1; rw [← HN.out] at hC1 ⊢; obtain ⟨ad, rfl, cell⟩ := intC0 hC1 hn0; rw [← HX.out] at cell; clear r1 p1 hC1 hc1)) | (go_at_call 12; go_must (refine (ClassP w1 (HG.out.below HB.out) x).mono ?_; rintro e w2 ⟨rfl, p2⟩; have HB2 := Aside0.mk (below_then HB.out HB.out.size p2); clear p2)) | (go_at_call 16; go_must (refine (TrailP w2 x).mono ?_; rintro e w3 ⟨rfl, p3⟩; have HB3 := Aside0.mk (below_then HB2.out HB2.out.size p3); clear p3)))
    go_ret
    exact ⟨by rw [HO.out]; rfl, HB3.out⟩
  | false =>
    rw [hc, Bool.false_and] at HO
    go_enter Tryd.func23, Tryd.ntmps23
    go_wp2_with (first | (go_at_call 21; go_must (refine HD.out.mono ?_; rintro e w1 ⟨v1, rfl, r1, p1⟩; obtain ⟨A1, c1, rfl, hc1, hC1⟩ := Kd.R_reads r1; have HB := Aside0.mk p1; rw [← HN.out] at hC1 ⊢; obtain ⟨ad, rfl, cell⟩ := intC0 hC1 hn0; rw [← HX.out] at cell; clear r1 p1 hC1 hc1)) | (go_at_call 12; go_must (refine (ClassP w1 (HG.out.below HB.out) x).mono ?_; rintro e w2 ⟨rfl, p2⟩; have HB2 := Aside0.mk (below_then HB.out HB.out.size p2); clear p2)))
    go_ret
    exact ⟨by rw [HO.out]; rfl, HB2.out⟩
/-! the same -/
theorem same_loop (l m : List Int) (hl : l.length ≤ 1000000000) (hlm : l.length = m.length) (d : Nat) : ∀ (i k : Nat), l.length - i = d → i ≤ l.length → d < k → tremaref01_SameRunes.l0 k l m i = some (decide (l.drop i = m.drop i)) := by
  induction d with
  | zero =>
    intro i k h1 h2 h3
    obtain ⟨k, rfl⟩ : ∃ q, k = q + 1 := ⟨k - 1, by omega⟩
    rw [tremaref01_SameRunes.l0, if_neg (by omega), List.drop_eq_nil_of_le (by omega), List.drop_eq_nil_of_le (by omega)]
    rfl
  | succ d ih =>
    intro i k h1 h2 h3
    obtain ⟨k, rfl⟩ : ∃ q, k = q + 1 := ⟨k - 1, by omega⟩
    have hlt : i < l.length := by omega
    have hlt2 : i < m.length := by omega
    have hih := ih (i + 1) k (by omega) (by omega) (by omega)
    have hw : wrap64 ((i : Int) + 1) = ((i + 1 : Nat) : Int) := by unfold wrap64; omega
    have c1 : (i : Int) < (l.length : Int) := by omega
    have c2 : (i : Int) < (m.length : Int) := by omega
    have c3 : 0 ≤ (i : Int) := by omega
    have e1 : rd l (i : Int) = l[i] := by simp [rd, List.getD_eq_getElem?_getD, List.getElem?_eq_getElem hlt]
    have e2 : rd m (i : Int) = m[i] := by simp [rd, List.getD_eq_getElem?_getD, List.getElem?_eq_getElem hlt2]
    rw [tremaref01_SameRunes.l0, if_pos c1, if_pos c3, if_pos c2, e1, e2, List.drop_eq_getElem_cons hlt, List.drop_eq_getElem_cons hlt2]
    by_cases h : l[i] = m[i]
    · rw [if_pos h, hw, hih]
      congr 1
      rw [decide_eq_decide]
      exact ⟨fun e => by rw [h, e], fun e => (List.cons.inj e).2⟩
    · rw [if_neg h]
      congr 1
      symm
      rw [decide_eq_false_iff_not]
      exact fun e => h (List.cons.inj e).1
theorem same_pure (l m : List Int) (hl : l.length ≤ 1000000000) : tremaref01_SameRunes.f (l.length + 1) l m = some (decide (l = m)) := by
  unfold tremaref01_SameRunes.f
  by_cases h : l.length = m.length
  · rw [if_pos (by omega)]
    have := same_loop l m hl h l.length 0 (l.length + 1) (by omega) (by omega) (by omega)
    simpa using this
  · rw [if_neg (by omega)]
    have : l ≠ m := fun e => h (by rw [e])
    simp [this]
theorem SameP (w : World) (A : Option Addr) (n c : Nat) (l : List Int) (hC : K3.C w A n l) (hn : n = l.length) (hc : n ≤ c) (B : Option Addr) (n2 d : Nat) (m : List Int) (hD : K3.C w B n2 m) (hn2 : n2 = m.length) (hd : n2 ≤ d) (hl : n ≤ 1000000000) :
    Calls Tryd.prog 20 #[.slice A n c, .slice B n2 d] w fun e w' => e = .returned (.bool (decide (l = m))) ∧ Below w.heap.size w w' := by
  subst hn hn2
  exact (tremaref01_SameRunes.calls _ A c l B d m _ w hC hc hD hd (same_pure l m hl)).mono fun _ _ h => ⟨h.1, h.2.below⟩
/-! folding -/
def allB (p : Int → Bool) : Nat → Int → Bool
  | 0, a => p a
  | d + 1, a => allB p d a && allB p d (a + 2 ^ d)
theorem allB_at (p : Int → Bool) : ∀ (d : Nat) (a : Int), allB p d a = true → ∀ r, a ≤ r → r < a + 2 ^ d → p r = true
  | 0, a, h, r, h1, h2 => by
    have : r = a := by simp at h2; omega
    subst this
    exact h
  | d + 1, a, h, r, h1, h2 => by
    rw [allB, Bool.and_eq_true] at h
    rw [Int.pow_succ] at h2
    by_cases h3 : r < a + 2 ^ d
    · exact allB_at p d a h.1 r h1 h3
    · exact allB_at p d (a + 2 ^ d) h.2 r (by omega) (by omega)
def foldU (r : Int) : List Int := (ucd_Fold.f 20 r).getD []
theorem fold_out (r : Int) (h : r < 65 ∨ 8492 ≤ r) : ucd_Fold.f 20 r = some [r] := by
  have b1 : decide (r ≤ 90) = decide (r < 65) := by rw [decide_eq_decide]; omega
  have h1 : ucd_fold.f 19 r = some r := by
    rcases h with h | h
    · simp only [ucd_fold.f, ucd_fold.j0, ucd_fold.j1, ucd_fold.j2, ucd_fold.j3, ucd_fold.j4, ucd_fold.j5, ucd_fold.j6, ucd_fold.j7, ucd_fold.j8]
      have e : ∀ k : Int, 65 ≤ k → (r ≥ k) = False := fun k hk => by simp; omega
      have e2 : ∀ k : Int, 65 ≤ k → (r = k) = False := fun k hk => by simp; omega
      simp [e, e2]
    · simp only [ucd_fold.f, ucd_fold.j0, ucd_fold.j1, ucd_fold.j2, ucd_fold.j3, ucd_fold.j4, ucd_fold.j5, ucd_fold.j6, ucd_fold.j7, ucd_fold.j8]
      have e : ∀ k : Int, k ≤ 8491 → (r ≤ k) = False := fun k hk => by simp; omega
      have e2 : ∀ k : Int, k ≤ 8491 → (r = k) = False := fun k hk => by simp; omega
      simp [e, e2]
  have n1 : r ≠ 223 := by omega
  have n2 : r ≠ 7838 := by omega
  have n3 : r ≠ 304 := by omega
  unfold ucd_Fold.f
  rw [if_neg n1, beq_eq_false_iff_ne.2 n2, ucd_Fold.j0, if_neg (by decide), if_neg n3, h1]
  rfl
def foldT (r : Int) : Bool := match ucd_Fold.f 20 r with
  | some l => l.all (fun x => (ucd_Fold.f 20 x == some [x]) && decide (0 ≤ x ∧ x < 10000))
  | none => false
theorem fold_in1 : allB foldT 13 0 = true := by decide +kernel
theorem fold_in2 : allB foldT 9 8192 = true := by decide +kernel
end Go.Proofs.YtfiihlgigeijcaaDoor.Ve
namespace Go.Proofs.YtfiihlgigeijcaaDoor.X
open Go.RowKit Go.Proofs.YtfiihlgigeijcaaDoorW.PrintWords
def ucd_Opens.f (a0 : Int) : Option Bool := if -2147483648 ≤ a0 ∧ a0 ≤ 2147483647 then some (Ve.opn a0) else none
theorem ucd_Opens.calls (a0 : Int) (r : Bool) (w : World) (h : ucd_Opens.f a0 = some r) (hG0 : Va.G w) : Calls Tryd.prog 23 #[.int .i32 a0] w fun e w' => e = .returned (.bool r) ∧ Below w.heap.size w w' := by
  unfold ucd_Opens.f at h
  split at h
  · rename_i hr
    obtain rfl := Option.some.inj h
    exact Ve.OpensP w hG0 a0 hr
  · cases h
end Go.Proofs.YtfiihlgigeijcaaDoor.X
