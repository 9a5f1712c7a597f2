/-
  The reference's Encode; PostingEncodes.
-/
import Derived.Test.YtpebemljgeammaaPq
import Derived.Test.YtpebemljgeammaaPPostingEncodesx3
namespace Go.Proofs.Ytpebemljgeammaa.Pz
set_option linter.unusedVariables false
set_option linter.unusedSimpArgs false
open Go.RowKit Go.Proofs.YtpebemljgeammaaW.PrintWords Go.Proofs.YtpebemljgeammaaW.PrintMore Go.Proofs.Ytpebemljgeammaa.Hp Go.Proofs.Ytpebemljgeammaa.Fm Go.Proofs.Ytpebemljgeammaa.Pn Go.Proofs.Ytpebemljgeammaa.Pm Go.Proofs.Ytpebemljgeammaa.Pw Go.Proofs.Ytpebemljgeammaa.Pe Go.Proofs.Ytpebemljgeammaa.Pd Go.Proofs.Ytpebemljgeammaa.Pf Go.Proofs.Ytpebemljgeammaa.Pq Go.Proofs.Ytpebemljgeammaa.PPostingEncodes

theorem add_pure (N : Nat) : ∀ (k : Nat) (pre : List Int), N < 9223372036854775808 → (pre ++ num N).length ≤ 140737488355328 → (num N).length ≤ k → tremaref14_add.f k pre N = some (pre ++ num N) := by
  induction N using Nat.strongRecOn with
  | _ N ih =>
    intro k pre hN hl hk
    have hp := num_pos N
    obtain ⟨k, rfl⟩ : ∃ k', k = k' + 1 := ⟨k - 1, by omega⟩
    rw [List.length_append] at hl
    unfold tremaref14_add.f
    rcases Nat.lt_or_ge N 128 with h | h
    · rw [tremaref14_add.l0, if_neg (by omega), if_pos (by omega), num_small h, show (N : Int) % 256 = (N : Int) by omega]
    · rw [num_big h, List.length_cons] at hl hk
      rw [tremaref14_add.l0, if_pos (by omega), if_pos (by omega)]
      have e1 : wrap64 (Int.tdiv (N : Int) 128) = ((N / 128 : Nat) : Int) := by rw [Int.tdiv_eq_ediv_of_nonneg (by omega)]; unfold wrap64; omega
      have e2 : wrap64 (Int.tmod (N : Int) 128 + 128) % 256 = ((N % 128 + 128 : Nat) : Int) := by rw [Int.tmod_eq_emod_of_nonneg (by omega)]; unfold wrap64; omega
      have := ih (N / 128) (by omega) k (pre ++ [((N % 128 + 128 : Nat) : Int)]) (by omega) (by simp; omega) (by omega)
      unfold tremaref14_add.f at this
      rw [e1, e2, this, num_big h]
      simp
theorem add_int (z : Int) (k : Nat) (pre : List Int) (h0 : 0 ≤ z ∧ z < 9223372036854775808) (hl : (pre ++ num z.toNat).length ≤ 140737488355328) (hk : 10 ≤ k) : tremaref14_add.f k pre z = some (pre ++ num z.toNat) := by
  have := add_pure z.toNat k pre (by omega) hl (Nat.le_trans (num_len10 (by omega)) hk)
  rw [Int.toNat_of_nonneg h0.1] at this
  exact this
section
variable (l : List S107) (hF : Fine l) (T : List Int) (hT : T.length ≤ 140737488355328)
include hF hT
theorem renc_l1 (i : Nat) (hi : i < l.length) (B : Nat) (hB : 10 ≤ B) (hR : ∀ (k : Nat) (pre : List Int), B ≤ k → pre ++ encF (rd_T107 l i).f0 (l.drop (i + 1)) = T → tremaref14_Encode.l0 k l pre ((i + 1 : Nat) : Int) = some (T, 0)) : ∀ (m j : Nat) (a : Int) (pre : List Int) (k : Nat), (rd_T107 l i).f1.length - j = m → j ≤ (rd_T107 l i).f1.length → (j = 0 ∧ a = -1 ∨ 0 < j ∧ a = rd (rd_T107 l i).f1 ((j - 1 : Nat) : Int)) → (-1 ≤ a ∧ a ≤ 2147483647) → ats a ((rd_T107 l i).f1.drop j) = true → pre ++ (encA a ((rd_T107 l i).f1.drop j) ++ encF (rd_T107 l i).f0 (l.drop (i + 1))) = T → m + 1 + B ≤ k →
    tremaref14_Encode.l1 k l pre i j = some (T, 0) := by
  have hf := hF.2 _ (rd_mem hi)
  intro m
  induction m with
  | zero =>
    intro j a pre k hm hj ha hab hat hpre hk
    obtain ⟨k, rfl⟩ : ∃ k', k = k' + 1 := ⟨k - 1, by omega⟩
    rw [List.drop_of_length_le (by omega), encA, List.nil_append] at hpre
    rw [tremaref14_Encode.l1, if_pos (by omega), if_pos (by omega), if_neg (by omega), w1 hi hF.1]
    exact hR k pre (by omega) hpre
  | succ m ih =>
    intro j a pre k hm hj ha hab hat hpre hk
    obtain ⟨k, rfl⟩ : ∃ k', k = k' + 1 := ⟨k - 1, by omega⟩
    have hlt : j < (rd_T107 l i).f1.length := by omega
    rw [drop_rd hlt] at hat hpre
    rw [encA] at hpre
    simp only [ats, Bool.and_eq_true, decide_eq_true_eq] at hat
    have hlen := congrArg List.length hpre
    simp only [List.length_append] at hlen
    have hadd := add_int (rd (rd_T107 l i).f1 j - a - 1) k pre (by omega) (by rw [List.length_append]; omega) (by omega)
    have hnext := ih (j + 1) (rd (rd_T107 l i).f1 j) (pre ++ num (rd (rd_T107 l i).f1 j - a - 1).toNat) k (by omega) (by omega) (.inr ⟨by omega, rfl⟩) (by omega) hat.2 (by rw [← hpre]; simp only [List.append_assoc]) (by omega)
    rw [tremaref14_Encode.l1, if_pos (by omega), if_pos (by omega), if_pos (by omega), w1 hlt hf]
    rcases ha with ⟨rfl, rfl⟩ | ⟨hj0, ha⟩
    · rw [if_neg (by omega), if_pos (by omega), show wrap64 (wrap64 (rd (rd_T107 l i).f1 ((0 : Nat) : Int) - (-1)) - 1) = rd (rd_T107 l i).f1 ((0 : Nat) : Int) - (-1) - 1 by unfold wrap64; omega, hadd, Option.bind_some]
      exact hnext
    · have e : wrap64 ((j : Int) - 1) = ((j - 1 : Nat) : Int) := by unfold wrap64; omega
      rw [if_pos (by omega), e, if_pos (by omega), if_pos (by omega), if_pos (by omega), ← ha, show wrap64 (wrap64 (rd (rd_T107 l i).f1 (j : Int) - a) - 1) = rd (rd_T107 l i).f1 (j : Int) - a - 1 by unfold wrap64; omega, hadd, Option.bind_some]
      exact hnext
theorem renc_l0 : ∀ (m i : Nat) (d : Int) (pre : List Int) (k : Nat), l.length - i = m → i ≤ l.length → (i = 0 ∧ d = -1 ∨ 0 < i ∧ d = (rd_T107 l ((i - 1 : Nat) : Int)).f0) → (-1 ≤ d ∧ d ≤ 2147483647) → mayF d (l.drop i) = true → pre ++ encF d (l.drop i) = T → sz (l.drop i) + 20 ≤ k →
    tremaref14_Encode.l0 k l pre i = some (T, 0) := by
  intro m
  induction m with
  | zero =>
    intro i d pre k hm hi hd hdb hmay hpre hk
    obtain ⟨k, rfl⟩ : ∃ k', k = k' + 1 := ⟨k - 1, by omega⟩
    rw [List.drop_of_length_le (by omega), encF, List.append_nil] at hpre
    rw [tremaref14_Encode.l0, if_neg (by omega), hpre]
  | succ m ih =>
    intro i d pre k hm hi hd hdb hmay hpre hk
    have hlt : i < l.length := by omega
    rw [drop_S hlt] at hk hmay hpre
    rw [sz_cons] at hk
    obtain ⟨k, rfl⟩ : ∃ k', k = k' + 2 := ⟨k - 2, by omega⟩
    have hll := hF.1
    have hfl := hF.2 _ (rd_mem hlt)
    rw [encF] at hpre
    simp only [mayF, Bool.and_eq_true, decide_eq_true_eq, Bool.not_eq_true'] at hmay
    obtain ⟨⟨⟨⟨h1, h2⟩, h3⟩, h4⟩, h5⟩ := hmay
    have hpos : 0 < (rd_T107 l i).f1.length := by cases hq : (rd_T107 l i).f1 <;> simp_all
    have hlen := congrArg List.length hpre
    simp only [List.length_append] at hlen
    have ha1 := add_int ((rd_T107 l i).f0 - d - 1) k pre (by omega) (by rw [List.length_append]; omega) (by omega)
    have ha2 := add_int (((rd_T107 l i).f1.length : Int) - 1) k (pre ++ num ((rd_T107 l i).f0 - d - 1).toNat) (by omega) (by rw [show (((rd_T107 l i).f1.length : Int) - 1).toNat = (rd_T107 l i).f1.length - 1 by omega]; simp only [List.length_append]; omega) (by omega)
    rw [show (((rd_T107 l i).f1.length : Int) - 1).toNat = (rd_T107 l i).f1.length - 1 by omega] at ha2
    have hl1 := renc_l1 l hF T hT i hlt (sz (l.drop (i + 1)) + 20) (by omega) (fun k' pre' hk' hp' => ih (i + 1) (rd_T107 l i).f0 pre' k' (by omega) (by omega) (.inr ⟨by omega, rfl⟩) (by omega) h5 hp' hk') (rd_T107 l i).f1.length 0 (-1) (pre ++ num ((rd_T107 l i).f0 - d - 1).toNat ++ num ((rd_T107 l i).f1.length - 1)) k (by omega) (by omega) (.inl ⟨rfl, rfl⟩) (by omega) (by rw [List.drop_zero]; exact h4) (by rw [List.drop_zero, ← hpre]; simp only [List.append_assoc]) (by omega)
    have hj : tremaref14_Encode.j1 (k + 1) l pre i d = some (T, 0) := by
      rw [tremaref14_Encode.j1, if_pos (by omega), if_pos (by omega), show wrap64 (wrap64 ((rd_T107 l i).f0 - d) - 1) = (rd_T107 l i).f0 - d - 1 by unfold wrap64; omega, ha1, Option.bind_some, show wrap64 (((rd_T107 l i).f1.length : Int) - 1) = ((rd_T107 l i).f1.length : Int) - 1 by unfold wrap64; omega, ha2, Option.bind_some]
      exact hl1
    rw [tremaref14_Encode.l0, if_pos (by omega)]
    rcases hd with ⟨rfl, rfl⟩ | ⟨hi0, hd⟩
    · rw [if_neg (by omega)]
      exact hj
    · have e : wrap64 ((i : Int) - 1) = ((i - 1 : Nat) : Int) := by unfold wrap64; omega
      rw [if_pos (by omega), e, if_pos (by omega), if_pos (by omega), ← hd]
      exact hj
end
theorem rmay_mono (l : List S107) (hF : Fine l) (k : Nat) (hk : sz l + 1 ≤ k) : tremaref14_May.f k l = some (may l) := by
  obtain ⟨d, rfl⟩ : ∃ d, k = sz l + 1 + d := ⟨k - (sz l + 1), by omega⟩
  clear hk
  induction d with
  | zero => exact rmay_pure l hF
  | succ d ih => exact tremaref14_May.mono l _ _ ih
theorem renc_pure (l : List S107) (hF : Fine l) (hm : may l = true) (hT : (encL l).length ≤ 140737488355328) : tremaref14_Encode.f (sz l + 20) l = some (encL l, 0) := by
  unfold tremaref14_Encode.f
  rw [rmay_mono l hF _ (by omega), Option.bind_some, hm, if_pos rfl]
  have hT2 := hT
  rw [encL, List.length_append] at hT2
  have hll := hF.1
  have ha := add_int (l.length : Int) (sz l + 20) [] (by omega) (by rw [Int.toNat_natCast, List.nil_append]; omega) (by omega)
  rw [Int.toNat_natCast, List.nil_append] at ha
  rw [ha, Option.bind_some]
  exact renc_l0 l hF (encL l) hT l.length 0 (-1) (num l.length) (sz l + 20) (by omega) (by omega) (.inl ⟨rfl, rfl⟩) (by omega) hm (by rw [List.drop_zero]; rfl) (by rw [List.drop_zero]; omega)
theorem renc_no (l : List S107) (hF : Fine l) (hm : may l = false) : tremaref14_Encode.f (sz l + 20) l = some ([], 1) := by
  unfold tremaref14_Encode.f
  rw [rmay_mono l hF _ (by omega), Option.bind_some, hm, if_neg (by simp)]
theorem RefEncP (w : World) (A : Option Addr) (n c : Nat) (l : List S107) (hC : Kd.C k107 w A n l) (hn : n = l.length) (hc : n ≤ c) (r : List Int) (ec : Int) (hr : may l = true ∧ (encL l).length ≤ 140737488355328 ∧ r = encL l ∧ ec = 0 ∨ may l = false ∧ r = [] ∧ ec = 1) :
    Calls Try.prog 54 #[.slice A n c] w fun e w' => ∃ v, e = .returned (.tuple #[v, .int .i64 ec]) ∧ Sep w [rowT KB 5 w.heap.size v r] w' := by
  subst hn
  have hF := fine_of_C hC
  have hf : tremaref14_Encode.f (sz l + 20) l = some (r, ec) := by
    rcases hr with ⟨h1, h2, rfl, rfl⟩ | ⟨h1, rfl, rfl⟩
    · exact renc_pure l hF h1 h2
    · exact renc_no l hF h1
  refine (tremaref14_Encode.calls _ A c l r ec w hC hc hf).mono ?_
  rintro e w' ⟨v, rfl, h2, h3⟩
  exact ⟨v, rfl, (Sep.nil w).new (rowT KB 5 w.heap.size v r) (ok := fun k => w.heap.size ≤ k) (Kd.R_mono (Kd.R_bound h2) (fun k hk => hk.2.1)) (fun _ h => h) h3⟩
end Go.Proofs.Ytpebemljgeammaa.Pz
