/-
  What a right list is written as is read as that list; the reference's Encode comes to the same bytes; a row's lists.
-/
import Derived.Test.YtpebemljgeammabPg
import Derived.Test.YtpebemljgeammabOd
namespace Go.Proofs.Ytpebemljgeammab.Pq
set_option linter.unusedVariables false
set_option linter.unusedSimpArgs false
open Go.RowKit Go.Proofs.YtpebemljgeammabW.PrintWords Go.Proofs.YtpebemljgeammabW.PrintMore Go.Proofs.Ytpebemljgeammab.Hp Go.Proofs.Ytpebemljgeammab.Fm Go.Proofs.Ytpebemljgeammab.Pn Go.Proofs.Ytpebemljgeammab.Pm Go.Proofs.Ytpebemljgeammab.Pw Go.Proofs.Ytpebemljgeammab.Pe Go.Proofs.Ytpebemljgeammab.Pd Go.Proofs.Ytpebemljgeammab.Pf Go.Proofs.Ytpebemljgeammab.PPostingKeeps

theorem nx_of_num (x : Nat) (hx : x ≤ 2147483647) (r : List Int) : nx (num x ++ r) = some (x, r) := by
  have h := rd1_num x (by omega) r
  have hp := num_pos x
  unfold nx
  rw [h, if_neg (by simp only; omega)]
  simp
theorem ats_len : ∀ (f : List Int) (a : Int), a ≤ 2147483647 → ats a f = true → (f.length : Int) + a ≤ 2147483647
  | [], a, ha, _ => by simpa using ha
  | n :: r, a, ha, h => by
    simp only [ats, Bool.and_eq_true, decide_eq_true_eq] at h
    have := ats_len r n h.1.2 h.2
    simp only [List.length_cons]; omega
theorem pA_of_enc : ∀ (f : List Int) (a : Int) (r : List Int), -1 ≤ a → ats a f = true → pA f.length a (encA a f ++ r) = some (f, r)
  | [], a, r, _, _ => rfl
  | n :: f, a, r, ha, h => by
    simp only [ats, Bool.and_eq_true, decide_eq_true_eq] at h
    rw [List.length_cons, pA, encA, List.append_assoc, nx_of_num _ (by omega)]
    simp only
    rw [show a + 1 + ((n - a - 1).toNat : Int) = n by omega, pA_of_enc f n r (by omega) h.2]
    rfl
theorem pL_of_enc : ∀ (l : List S42) (d : Int) (r : List Int), -1 ≤ d → mayF d l = true → pL l.length d (encF d l ++ r) = some (l, r)
  | [], d, r, _, _ => rfl
  | p :: l, d, r, hd, h => by
    simp only [mayF, Bool.and_eq_true, decide_eq_true_eq, Bool.not_eq_true'] at h
    obtain ⟨⟨⟨⟨h1, h2⟩, h3⟩, h4⟩, h5⟩ := h
    have hl := ats_len p.f1 (-1) (by omega) h4
    have hp : 0 < p.f1.length := by cases hq : p.f1 <;> simp_all
    rw [List.length_cons, pL, encF]
    simp only [List.append_assoc]
    rw [nx_of_num _ (by omega)]
    simp only [Option.bind_some]
    rw [nx_of_num _ (by omega)]
    simp only [Option.bind_some]
    rw [show p.f1.length - 1 + 1 = p.f1.length by omega, pA_of_enc p.f1 (-1) _ (by omega) h4]
    simp only [Option.bind_some]
    rw [show d + 1 + ((p.f0 - d - 1).toNat : Int) = p.f0 by omega, pL_of_enc l p.f0 r (by omega) h5]
    rfl
theorem dec_of_enc (l : List S42) (hm : may l = true) (hl : l.length ≤ 2147483647) : dec (encL l) = some l := by
  unfold dec encL
  rw [nx_of_num _ hl, Option.bind_some]
  have h := pL_of_enc l (-1) [] (by omega) hm
  rw [List.append_nil] at h
  simp only
  rw [h, Option.bind_some, if_pos ⟨rfl, hm⟩]
theorem encA_byt : ∀ (f : List Int) (a : Int), Byt (encA a f)
  | [], _ => by intro x hx; cases hx
  | n :: f, a => by
    intro x hx
    rw [encA] at hx
    rcases List.mem_append.1 hx with h | h
    · exact num_byt _ x h
    · exact encA_byt f n x h
theorem encF_byt : ∀ (l : List S42) (d : Int), Byt (encF d l)
  | [], _ => by intro x hx; cases hx
  | p :: l, d => by
    intro x hx
    rw [encF] at hx
    rcases List.mem_append.1 hx with h | h
    · rcases List.mem_append.1 h with h | h
      · rcases List.mem_append.1 h with h | h
        · exact num_byt _ x h
        · exact num_byt _ x h
      · exact encA_byt _ _ x h
    · exact encF_byt l _ x h
theorem encL_byt (l : List S42) : Byt (encL l) := by
  intro x hx
  rw [encL] at hx
  rcases List.mem_append.1 hx with h | h
  · exact num_byt _ x h
  · exact encF_byt l _ x h
theorem encA_len : ∀ (f : List Int) (a : Int), -1 ≤ a → ats a f = true → (encA a f).length ≤ 5 * f.length
  | [], _, _, _ => by simp [encA]
  | n :: f, a, ha, h => by
    simp only [ats, Bool.and_eq_true, decide_eq_true_eq] at h
    have h1 := encA_len f n (by omega) h.2
    have h2 := num_len5 (n := (n - a - 1).toNat) (by omega)
    rw [encA, List.length_append, List.length_cons]; omega
theorem encF_len : ∀ (l : List S42) (d : Int), -1 ≤ d → mayF d l = true → (encF d l).length ≤ 5 * sz l
  | [], _, _, _ => by simp [encF]
  | p :: l, d, hd, h => by
    simp only [mayF, Bool.and_eq_true, decide_eq_true_eq, Bool.not_eq_true'] at h
    obtain ⟨⟨⟨⟨h1, h2⟩, h3⟩, h4⟩, h5⟩ := h
    have hl := ats_len p.f1 (-1) (by omega) h4
    have g1 := encF_len l p.f0 (by omega) h5
    have g2 := encA_len p.f1 (-1) (by omega) h4
    have g3 := num_len5 (n := (p.f0 - d - 1).toNat) (by omega)
    have g4 := num_len5 (n := p.f1.length - 1) (by omega)
    rw [encF, sz_cons]; simp only [List.length_append]; omega

/-! the row's lists -/
theorem k_of_pair {w : World} {A : Option Addr} {n : Nat} {xs : List (Int × List Int)} (h : (Kd.pair (Kd.int .i64) (Kd.slice 3 (Kd.int .i64))).C w A n xs) : k42.C w A n (xs.map fun p => (⟨p.1, p.2⟩ : S42)) := by
  refine ⟨by rw [List.length_map]; exact h.1, h.2.1, fun h0 => ?_⟩
  obtain ⟨ad, e, h3⟩ := h.2.2 h0
  refine ⟨ad, e, fun j q hq => ?_⟩
  rw [List.getElem?_map] at hq
  obtain ⟨p, hp, rfl⟩ := Option.map_eq_some_iff.1 hq
  exact h3 j p hp
theorem sz_bulk : ∀ xs : List (Int × List Int), sz (xs.map fun p => (⟨p.1, p.2⟩ : S42)) ≤ 4 * Od.sumB (fun x : Int × List Int => 1 + (Od.sumB (fun _ => 1) x.2 + 1) + 1) xs
  | [] => by simp [sz]
  | p :: xs => by
    have h := sz_bulk xs
    have h2 := Od.sumB_len (bulk := fun _ : Int => 1) (fun _ => Nat.le_refl _) p.2
    rw [List.map_cons, sz_cons, Od.sumB]
    simp only at h ⊢
    omega
theorem len_sz : ∀ l : List S42, 4 * l.length ≤ sz l
  | [] => by simp [sz]
  | p :: l => by have := len_sz l; rw [sz_cons, List.length_cons]; omega
theorem enc_small (l : List S42) (h : sz l ≤ 4194304) (hm : may l = true) : (encL l).length ≤ 140737488355328 := by
  have h1 := encF_len l (-1) (by omega) hm
  have h2 := len_sz l
  have h3 := num_len5 (n := l.length) (by omega)
  rw [encL, List.length_append]; omega
end Go.Proofs.Ytpebemljgeammab.Pq
