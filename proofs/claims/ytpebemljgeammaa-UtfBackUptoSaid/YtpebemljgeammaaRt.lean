/-
  What is written is read back (UTF-8), plainly.
-/
import Derived.Test.YtpebemljgeammaaEn
import Derived.Test.YtpebemljgeammaaUz
namespace Go.Proofs.Ytpebemljgeammaa.Rt
set_option linter.unusedVariables false
set_option linter.unusedSimpArgs false
open Go.RowKit Go.Proofs.YtpebemljgeammaaW.PrintWords Go.Proofs.Ytpebemljgeammaa.Hp Go.Proofs.Ytpebemljgeammaa.Ux Go.Proofs.Ytpebemljgeammaa.En Go.Proofs.Ytpebemljgeammaa.PUtfDecodes

def Cont (l : List Int) : Prop := ∀ x, x ∈ l → 128 ≤ x ∧ x ≤ 191
theorem one1_cont (x : Int) (h : 128 ≤ x ∧ x ≤ 191) (t : List Int) : one1 x t = (65533, 1, false) := by
  unfold one1 bnd
  rw [if_neg (by omega), if_pos (by omega)]
theorem dc_conts : ∀ (l : List Int) (p : Int), Cont l → ∃ q, dc l p = (q, [], p + l.length) ∧ q.length = l.length ∧ ∀ y, y ∈ q → y.f0 = 65533
  | [], p, _ => ⟨[], by simp [dc_nil], rfl, by simp⟩
  | x :: l, p, h => by
    obtain ⟨q, h1, h2, h3⟩ := dc_conts l (p + 1) (fun y hy => h y (List.mem_cons_of_mem _ hy))
    refine ⟨(⟨65533, p, 1⟩ : S72) :: q, ?_, by simp [h2], ?_⟩
    · rw [dc_cons, one1_cont x (h x List.mem_cons_self) l]
      simp only [Bool.false_eq_true, if_false]
      have e : (x :: l).drop (1 : Int).toNat = l := rfl
      rw [e, h1]
      simp only [List.length_cons, Prod.mk.injEq, true_and]
      push_cast; omega
    · intro y hy
      rcases List.mem_cons.1 hy with rfl | hy
      · rfl
      · exact h3 y hy
theorem full_conts (l : List Int) (h : Cont l) : (full l).length = l.length ∧ ∀ y, y ∈ full l → y.f0 = 65533 := by
  obtain ⟨q, h1, h2, h3⟩ := dc_conts l 0 h
  unfold full
  rw [h1]
  simp [rest1, h2]
  exact h3
theorem encv_tail (f : Int) (h0 : 0 ≤ f) (i : Nat) (hi : 1 ≤ i) : Cont ((encv f).drop i) := by
  obtain ⟨i, rfl⟩ : ∃ k, i = k + 1 := ⟨i - 1, by omega⟩
  intro x hx
  have hm : x ∈ (encv f).tail := by
    rw [← List.drop_one]
    have : (encv f).drop (i + 1) = ((encv f).drop 1).drop i := by rw [List.drop_drop, Nat.add_comm]
    rw [this] at hx
    exact List.mem_of_mem_drop hx
  unfold encv at hm
  split at hm
  · simp at hm
  · split at hm
    · simp at hm; omega
    · split at hm <;> simp at hm <;> omega
theorem one1_enc (f : Int) (hv : vld f = true) (s : List Int) : ∃ c t, encv f = c :: t ∧ one1 c (t ++ s) = (f, (((encv f).length : Nat) : Int), false) := by
  simp only [vld, decide_eq_true_eq] at hv
  unfold encv
  split
  · rename_i h1
    exact ⟨f, [], rfl, by simp [one1, bnd, st, h1, cont]⟩
  · split
    · rename_i h1 h2
      refine ⟨_, _, rfl, ?_⟩
      unfold one1 bnd st
      rw [if_neg (by omega), if_neg (by omega), if_pos (by omega), if_neg (by omega), if_pos (by omega)]
      simp only [List.cons_append, List.nil_append, cont]
      rw [if_neg (by omega)]
      simp only [List.length_cons, List.length_nil, Prod.mk.injEq]
      exact ⟨by omega, by omega, trivial⟩
    · split
      · rename_i h1 h2 h3
        refine ⟨_, _, rfl, ?_⟩
        unfold one1 bnd st
        rw [if_neg (show ¬ (224 + f / 4096 < 128) by omega), if_neg (show ¬ (224 + f / 4096 < 194 ∨ 244 < 224 + f / 4096) by omega), if_neg (show ¬ (224 + f / 4096 < 224) by omega), if_pos (show 224 + f / 4096 < 240 by omega), if_neg (show ¬ (224 + f / 4096 < 128) by omega), if_neg (show ¬ (224 + f / 4096 < 224) by omega), if_pos (show 224 + f / 4096 < 240 by omega)]
        simp only [List.cons_append, List.nil_append, cont]
        rw [if_neg (by split <;> split <;> omega), if_neg (by omega)]
        simp only [List.length_cons, List.length_nil, Prod.mk.injEq]
        exact ⟨by omega, by omega, trivial⟩
      · rename_i h1 h2 h3
        refine ⟨_, _, rfl, ?_⟩
        unfold one1 bnd st
        rw [if_neg (show ¬ (240 + f / 262144 < 128) by omega), if_neg (show ¬ (240 + f / 262144 < 194 ∨ 244 < 240 + f / 262144) by omega), if_neg (show ¬ (240 + f / 262144 < 224) by omega), if_neg (show ¬ 240 + f / 262144 < 240 by omega), if_neg (show ¬ (240 + f / 262144 < 128) by omega), if_neg (show ¬ (240 + f / 262144 < 224) by omega), if_neg (show ¬ 240 + f / 262144 < 240 by omega)]
        simp only [List.cons_append, List.nil_append, cont]
        rw [if_neg (by split <;> split <;> omega), if_neg (by omega), if_neg (by omega)]
        simp only [List.length_cons, List.length_nil, Prod.mk.injEq]
        exact ⟨by omega, by omega, trivial⟩
theorem dc_encv (f : Int) (hv : vld f = true) (s : List Int) (p : Int) : dc (encv f ++ s) p = ((⟨f, p, (encv f).length⟩ : S72) :: (dc s (p + (encv f).length)).1, (dc s (p + (encv f).length)).2) := by
  obtain ⟨c, t, h1, h2⟩ := one1_enc f hv s
  have hl : (encv f).length = t.length + 1 := by rw [h1]; rfl
  rw [h1, List.cons_append, dc_cons, h2]
  simp only [Bool.false_eq_true, if_false]
  have e : (c :: (t ++ s)).drop (((encv f).length : Nat) : Int).toNat = s := by rw [Int.toNat_natCast, hl]; simp
  rw [e, hl]
  simp
theorem full_enc1 (r : Int) : full (enc1 r) = [(⟨fixr r, 0, (enc1 r).length⟩ : S72)] := by
  have := dc_encv (fixr r) (fixr_ok r).2.2 [] 0
  rw [List.append_nil] at this
  unfold full enc1
  rw [this]
  simp [dc_nil, rest1]
theorem width (r : Int) : (enc1 r).length = if vld r = true then (if r < 128 then 1 else if r < 2048 then 2 else if r < 65536 then 3 else 4) else 3 := by
  unfold enc1 fixr
  split
  · unfold encv; split <;> (try split) <;> (try split) <;> simp
  · decide
end Go.Proofs.Ytpebemljgeammaa.Rt
