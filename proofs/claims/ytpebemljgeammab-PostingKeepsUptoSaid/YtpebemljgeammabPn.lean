/-
  Numbers in bytes of seven bits, plainly; what the printed Read of both comes to.
-/
import Derived.Test.YtpebemljgeammabPPostingKeepsx1
import Derived.Test.YtpebemljgeammabHp
namespace Go.Proofs.Ytpebemljgeammab.Pn
set_option linter.unusedVariables false
set_option linter.unusedSimpArgs false
open Go.RowKit Go.Proofs.YtpebemljgeammabW.PrintWords Go.Proofs.YtpebemljgeammabW.PrintMore Go.Proofs.Ytpebemljgeammab.PPostingKeeps

def Byt (b : List Int) : Prop := ∀ x, x ∈ b → 0 ≤ x ∧ x < 256
def num (n : Nat) : List Int := if n < 128 then [(n : Int)] else ((n % 128 + 128 : Nat) : Int) :: num (n / 128)
termination_by n
decreasing_by omega
def rdF (i acc : Nat) : List Int → Nat × Nat
  | [] => (0, 0)
  | c :: r => if i = 9 ∧ 1 < c ∨ 9 < i then (0, 0) else if c < 128 then (if c = 0 ∧ 0 < i then (0, 0) else (acc + c.toNat * 2 ^ (7 * i), i + 1)) else rdF (i + 1) (acc + (c.toNat - 128) * 2 ^ (7 * i)) r
def rd1 (b : List Int) : Nat × Nat := rdF 0 0 b

theorem num_small {n : Nat} (h : n < 128) : num n = [(n : Int)] := by rw [num, if_pos h]
theorem num_big {n : Nat} (h : 128 ≤ n) : num n = ((n % 128 + 128 : Nat) : Int) :: num (n / 128) := by rw [num, if_neg (by omega)]
theorem num_pos (n : Nat) : 0 < (num n).length := by rw [num]; split <;> simp
theorem num_byt (n : Nat) : Byt (num n) := by
  induction n using Nat.strongRecOn with
  | _ n ih =>
    rcases Nat.lt_or_ge n 128 with h | h
    · rw [num_small h]; intro x hx; simp at hx; omega
    · rw [num_big h]; intro x hx
      rcases List.mem_cons.1 hx with rfl | hx
      · omega
      · exact ih (n / 128) (by omega) x hx
/-- All but the last are marked. -/
theorem num_shape (n : Nat) : ∃ l x, num n = l ++ [x] ∧ (∀ y, y ∈ l → 128 ≤ y) ∧ x < 128 ∧ 0 ≤ x := by
  induction n using Nat.strongRecOn with
  | _ n ih =>
    rcases Nat.lt_or_ge n 128 with h | h
    · exact ⟨[], n, by rw [num_small h]; rfl, by simp, by omega, by omega⟩
    · obtain ⟨l, x, h1, h2, h3⟩ := ih (n / 128) (by omega)
      refine ⟨((n % 128 + 128 : Nat) : Int) :: l, x, by rw [num_big h, h1]; rfl, ?_, h3⟩
      intro y hy
      rcases List.mem_cons.1 hy with rfl | hy
      · omega
      · exact h2 y hy
theorem num_len {n B k : Nat} (h : n < B) (hB : B = 128 ^ k) (hk : 0 < k) : (num n).length ≤ k := by
  subst hB
  induction k generalizing n with
  | zero => omega
  | succ k ih =>
    rcases Nat.lt_or_ge n 128 with h1 | h1
    · rw [num_small h1]; simp
    · rw [num_big h1]
      rw [Nat.pow_succ] at h
      rcases Nat.eq_zero_or_pos k with rfl | hk
      · simp at h; omega
      · have := ih (n := n / 128) hk (by rw [Nat.div_lt_iff_lt_mul (by decide)]; exact h)
        simp only [List.length_cons]; omega
theorem num_len5 {n : Nat} (h : n < 2147483648) : (num n).length ≤ 5 := num_len (B := 34359738368) (k := 5) (by omega) (by decide) (by decide)
theorem num_len10 {n : Nat} (h : n < 18446744073709551616) : (num n).length ≤ 10 := num_len (B := 1180591620717411303424) (k := 10) (by omega) (by decide) (by decide)

theorem pw_succ (i : Nat) : 2 ^ (7 * (i + 1)) = 128 * 2 ^ (7 * i) := by rw [show 7 * (i + 1) = 7 * i + 7 by omega, Nat.pow_add]; omega
theorem pw_le {i j : Nat} (h : i ≤ j) : 2 ^ (7 * i) ≤ 2 ^ (7 * j) := Nat.pow_le_pow_right (by decide) (by omega)

/-- What was written is read. -/
theorem rdF_num (m : Nat) : ∀ i acc r, (i = 0 ∨ 0 < m) → m * 2 ^ (7 * i) < 18446744073709551616 → rdF i acc (num m ++ r) = (acc + m * 2 ^ (7 * i), i + (num m).length) := by
  induction m using Nat.strongRecOn with
  | _ m ih =>
    intro i acc r h0 hb
    have hpos : 0 < 2 ^ (7 * i) := Nat.two_pow_pos _
    have hi9 : 0 < m → i ≤ 9 := fun hm => by
      rcases Nat.lt_or_ge 9 i with h | h
      · have h1 := pw_le (show 10 ≤ i by omega)
        have h2 := Nat.mul_le_mul (show 1 ≤ m by omega) h1
        have h3 : 2 ^ (7 * 10) = 1180591620717411303424 := by decide
        rw [h3] at h2; omega
      · exact h
    rcases Nat.lt_or_ge m 128 with h | h
    · rw [num_small h]
      have hno : ¬ (i = 9 ∧ 1 < (m : Int) ∨ 9 < i) := by
        rintro (⟨rfl, h1⟩ | h1)
        · have h3 : 2 ^ (7 * 9) = 9223372036854775808 := by decide
          rw [h3] at hb; omega
        · rcases h0 with h0 | h0
          · omega
          · have := hi9 h0; omega
      rw [List.singleton_append, rdF, if_neg hno, if_pos (by omega), if_neg (by omega)]
      simp
    · have hi8 : i ≤ 8 := by
        rcases Nat.lt_or_ge 8 i with h1 | h1
        · have h2 := Nat.mul_le_mul h (pw_le (show 9 ≤ i by omega))
          have h3 : 2 ^ (7 * 9) = 9223372036854775808 := by decide
          rw [h3] at h2; omega
        · exact h1
      rw [num_big h]
      rw [List.cons_append, rdF, if_neg (by omega), if_neg (by omega)]
      have hm : m / 128 * 2 ^ (7 * (i + 1)) ≤ m * 2 ^ (7 * i) := by
        rw [pw_succ, ← Nat.mul_assoc]
        exact Nat.mul_le_mul_right _ (by omega)
      rw [ih (m / 128) (by omega) (i + 1) _ r (.inr (by omega)) (by omega)]
      congr 1
      · rw [pw_succ, show (((m % 128 + 128 : Nat) : Int).toNat - 128) = m % 128 by omega, Nat.add_assoc, ← Nat.mul_assoc, ← Nat.add_mul]
        congr 2
        omega
      · simp only [List.length_cons]; omega
theorem rd1_num (n : Nat) (h : n < 18446744073709551616) (r : List Int) : rd1 (num n ++ r) = (n, (num n).length) := by
  unfold rd1
  rw [rdF_num n 0 0 r (.inl rfl) (by simpa using h)]
  simp
/-- What is read was so written. -/
theorem rdF_inv : ∀ (b : List Int) (i acc n w : Nat), Byt b → rdF i acc b = (n, w) → w = 0 ∧ n = 0 ∨ ∃ m r, b = num m ++ r ∧ n = acc + m * 2 ^ (7 * i) ∧ w = i + (num m).length ∧ (i = 0 ∨ 0 < m) ∧ (m + 1) * 2 ^ (7 * i) ≤ 18446744073709551616
  | [], i, acc, n, w, _, h => by simp only [rdF, Prod.mk.injEq] at h; exact .inl ⟨h.2.symm, h.1.symm⟩
  | c :: r, i, acc, n, w, hb, h => by
    have hc := hb c (by simp)
    rw [rdF] at h
    split at h
    · simp only [Prod.mk.injEq] at h; exact .inl ⟨h.2.symm, h.1.symm⟩
    · rename_i hno
      have hi : i ≤ 9 := by omega
      split at h
      · rename_i hlt
        split at h
        · simp only [Prod.mk.injEq] at h; exact .inl ⟨h.2.symm, h.1.symm⟩
        · rename_i hz
          simp only [Prod.mk.injEq] at h
          refine .inr ⟨c.toNat, r, ?_, h.1.symm, ?_, by omega, ?_⟩
          · rw [num_small (by omega), Int.toNat_of_nonneg hc.1]; rfl
          · rw [num_small (by omega)]; exact h.2.symm
          · rcases Nat.lt_or_ge i 9 with h1 | h1
            · have h2 := Nat.mul_le_mul (show c.toNat + 1 ≤ 128 by omega) (pw_le (show i ≤ 8 by omega))
              have h3 : 2 ^ (7 * 8) = 72057594037927936 := by decide
              rw [h3] at h2; omega
            · have e : i = 9 := by omega
              subst e
              have h3 : 2 ^ (7 * 9) = 9223372036854775808 := by decide
              rw [h3]; omega
      · rename_i hge
        rcases rdF_inv r (i + 1) _ n w (fun x hx => hb x (List.mem_cons_of_mem _ hx)) h with h1 | ⟨m, r', e1, e2, e3, e4, e5⟩
        · exact .inl h1
        · have hm : 0 < m := by omega
          refine .inr ⟨c.toNat - 128 + 128 * m, r', ?_, ?_, ?_, .inr (by omega), ?_⟩
          · rw [num_big (by omega), show (c.toNat - 128 + 128 * m) / 128 = m by omega, show (((c.toNat - 128 + 128 * m) % 128 + 128 : Nat) : Int) = c by omega, e1]; rfl
          · rw [e2, pw_succ, Nat.add_assoc, ← Nat.mul_assoc, ← Nat.add_mul]
            congr 2
            omega
          · rw [num_big (by omega), show (c.toNat - 128 + 128 * m) / 128 = m by omega, e3]; simp only [List.length_cons]; omega
          · refine Nat.le_trans ?_ e5
            rw [pw_succ, ← Nat.mul_assoc]
            exact Nat.mul_le_mul_right _ (by omega)
theorem rd1_inv (b : List Int) (hb : Byt b) : rd1 b = (0, 0) ∨ ∃ m r, b = num m ++ r ∧ rd1 b = (m, (num m).length) ∧ m < 18446744073709551616 := by
  rcases rdF_inv b 0 0 (rd1 b).1 (rd1 b).2 hb rfl with ⟨h1, h2⟩ | ⟨m, r, h1, h2, h3, _, h5⟩
  · exact .inl (Prod.ext h2 h1)
  · refine .inr ⟨m, r, h1, Prod.ext ?_ ?_, ?_⟩
    · rw [h2]; simp
    · rw [h3]; simp
    · simp at h5; omega
/-- Nothing is read where all are marked. -/
theorem rdF_marked : ∀ (b : List Int) (i acc : Nat), (∀ y, y ∈ b → 128 ≤ y) → rdF i acc b = (0, 0)
  | [], _, _, _ => rfl
  | c :: r, i, acc, h => by
    rw [rdF]
    split
    · rfl
    · rw [if_neg (by have := h c (by simp); omega)]
      exact rdF_marked r _ _ (fun y hy => h y (List.mem_cons_of_mem _ hy))
theorem rd1_part (n k : Nat) (hk : k < (num n).length) : rd1 ((num n).take k) = (0, 0) := by
  obtain ⟨l, x, h1, h2, _⟩ := num_shape n
  rw [h1] at hk ⊢
  rw [List.take_append_of_le_length (by simp at hk; omega)]
  exact rdF_marked _ _ _ (fun y hy => h2 y (List.mem_of_mem_take hy))

/-! the program's Read -/
theorem or_low (k : Nat) (hk : k ≤ 63) (a h : Nat) (ha : a < 2 ^ k) (hh : h * 2 ^ k < 18446744073709551616) : Go.bits .or .u64 (a : Int) ((h * 2 ^ k : Nat) : Int) = ((a + h * 2 ^ k : Nat) : Int) := by
  have hp : 2 ^ k ≤ 2 ^ 63 := Nat.pow_le_pow_right (by decide) hk
  have h64 : (2 : Nat) ^ 64 = 18446744073709551616 := by decide
  have h63 : (2 : Nat) ^ 63 = 9223372036854775808 := by decide
  rw [(bits_nat .u64 64 (by decide) (fun n h0 h1 => by
    have e : IntKind.u64.wrap n = n % 18446744073709551616 := by simp [IntKind.wrap, IntKind.bits, IntKind.signed]
    have h2 : (2 : Int) ^ 64 = 18446744073709551616 := by decide
    rw [e]; rw [h2] at h1; omega) a (h * 2 ^ k) (by rw [h64]; omega) (by rw [h64]; exact hh)).2]
  congr 1
  rw [Nat.or_comm, Nat.mul_comm h, ← Nat.two_pow_add_eq_or_of_lt ha h, Nat.add_comm]
theorem step_or (acc i : Nat) (c : Int) (hi : i ≤ 9) (ha : acc < 2 ^ (7 * i)) (hc : 0 ≤ c ∧ c < 256) (h9 : ¬ (i = 9 ∧ 1 < c)) :
    Go.bits .or .u64 (acc : Int) (shl .u64 (IntKind.u64.wrap (Go.bits .and .u8 c 127)) (IntKind.u64.wrap (wrap64 (7 * (i : Int))))) = ((acc + (c.toNat % 128) * 2 ^ (7 * i) : Nat) : Int) := by
  have w64 : ∀ n : Int, IntKind.u64.wrap n = n % 18446744073709551616 := fun n => by simp [IntKind.wrap, IntKind.bits, IntKind.signed]
  have e1 : IntKind.u64.wrap (wrap64 (7 * (i : Int))) = ((7 * i : Nat) : Int) := by rw [w64]; unfold wrap64; omega
  have e2 : Go.bits .and .u8 c 127 = c % 128 := bits_mask .u8 8 (by decide) wraps_u8 7 (by decide) c hc.1 hc.2
  have hsm : (c.toNat % 128) * 2 ^ (7 * i) < 18446744073709551616 := by
    rcases Nat.lt_or_ge i 9 with h1 | h1
    · have h2 := Nat.mul_le_mul (show c.toNat % 128 ≤ 128 by omega) (pw_le (show i ≤ 8 by omega))
      have h3 : 2 ^ (7 * 8) = 72057594037927936 := by decide
      rw [h3] at h2; omega
    · have e : i = 9 := by omega
      subst e
      have h3 : 2 ^ (7 * 9) = 9223372036854775808 := by decide
      rw [h3]; omega
  have e3 : shl .u64 (IntKind.u64.wrap (Go.bits .and .u8 c 127)) (IntKind.u64.wrap (wrap64 (7 * (i : Int)))) = (((c.toNat % 128) * 2 ^ (7 * i) : Nat) : Int) := by
    rw [e1, e2]
    unfold shl
    rw [w64, w64, Int.toNat_natCast, show min (7 * i) IntKind.u64.bits = 7 * i by simp [IntKind.bits]; omega]
    have e4 : c % 128 % 18446744073709551616 = ((c.toNat % 128 : Nat) : Int) := by omega
    rw [e4]
    have e5 : ((c.toNat % 128 : Nat) : Int) * 2 ^ (7 * i) = (((c.toNat % 128) * 2 ^ (7 * i) : Nat) : Int) := by push_cast; rfl
    rw [e5]
    omega
  rw [e3]
  exact or_low (7 * i) (by omega) acc _ ha hsm
theorem acc_lt {acc i x : Nat} (ha : acc < 2 ^ (7 * i)) (hx : x < 128) : acc + x * 2 ^ (7 * i) < 2 ^ (7 * (i + 1)) := by
  rw [pw_succ]
  have := Nat.mul_le_mul_right (2 ^ (7 * i)) (show x ≤ 127 by omega)
  omega
theorem drop_rd {b : List Int} {i : Nat} (h : i < b.length) : b.drop i = rd b i :: b.drop (i + 1) := by
  rw [List.drop_eq_getElem_cons h]
  unfold rd
  simp [List.getElem?_eq_getElem h]
theorem rd_byt {b : List Int} (hb : Byt b) {i : Nat} (h : i < b.length) : 0 ≤ rd b i ∧ rd b i < 256 := by
  have e : rd b i = b[i] := by unfold rd; simp [List.getElem?_eq_getElem h]
  rw [e]
  exact hb _ (List.getElem_mem h)

theorem read_l0 (b : List Int) (hb : Byt b) (hl : b.length ≤ 140737488355328) : ∀ (m i acc k : Nat), b.length - i = m → i ≤ b.length → (i ≤ 9 → acc < 2 ^ (7 * i)) → 2 * m < k →
    posting_Read.l0 k acc b b.length i = some (((rdF i acc (b.drop i)).1 : Int), ((rdF i acc (b.drop i)).2 : Int)) := by
  intro m
  induction m with
  | zero =>
    intro i acc k hm hi ha hk
    obtain ⟨k, rfl⟩ : ∃ k', k = k' + 1 := ⟨k - 1, by omega⟩
    rw [posting_Read.l0, if_neg (by omega), List.drop_of_length_le (by omega)]
    rfl
  | succ m ih =>
    intro i acc k hm hi ha hk
    obtain ⟨k, rfl⟩ : ∃ k', k = k' + 2 := ⟨k - 2, by omega⟩
    have hlt : i < b.length := by omega
    have hc := rd_byt hb hlt
    rw [posting_Read.l0, if_pos (by omega), if_pos (by omega), if_pos (by omega), drop_rd hlt]
    generalize rd b i = c at *
    have hj : (if (i : Int) = 9 then (if c > 1 then (posting_Read.j1 (k + 1) acc i c b b.length i true) else (posting_Read.j1 (k + 1) acc i c b b.length i (decide ((i : Int) > 9)))) else (posting_Read.j1 (k + 1) acc i c b b.length i (decide ((i : Int) > 9)))) = posting_Read.j1 (k + 1) acc i c b b.length i (decide (i = 9 ∧ 1 < c ∨ 9 < i)) := by
      split
      · split
        · congr 1; symm; rw [decide_eq_true_eq]; omega
        · congr 1; rw [decide_eq_decide]; omega
      · congr 1; rw [decide_eq_decide]; omega
    rw [hj, posting_Read.j1, rdF]
    by_cases hno : i = 9 ∧ 1 < c ∨ 9 < i
    · rw [if_pos (by simpa using hno), if_pos hno]; rfl
    · rw [if_neg (by simpa using hno), if_neg hno]
      have hi9 : i ≤ 9 := by omega
      have hst := step_or acc i c hi9 (ha hi9) hc (by omega)
      have hw : (0 : Int) ≤ IntKind.u64.wrap (wrap64 (7 * (i : Int))) := by
        have e : ∀ n : Int, IntKind.u64.wrap n = n % 18446744073709551616 := fun n => by simp [IntKind.wrap, IntKind.bits, IntKind.signed]
        rw [e]; exact Int.emod_nonneg _ (by decide)
      rw [if_pos hw, hst]
      have w1 : wrap64 ((i : Int) + 1) = ((i + 1 : Nat) : Int) := by unfold wrap64; omega
      rw [w1]
      have hal : acc + (c.toNat - 128) * 2 ^ (7 * i) < 2 ^ (7 * (i + 1)) := acc_lt (ha hi9) (by omega)
      clear hst ha
      generalize 2 ^ (7 * i) = X at hal ⊢
      split
      · rename_i hc1
        have hmod : c.toNat % 128 = c.toNat := Nat.mod_eq_of_lt (by omega)
        rw [hmod]
        split
        · rename_i hc0
          split
          · rw [if_pos (by omega)]; rfl
          · rw [if_neg (by omega)]
        · rw [if_neg (by omega)]
      · rename_i hc1
        have hmod : c.toNat % 128 = c.toNat - 128 := by omega
        rw [hmod]
        exact ih (i + 1) _ k (by omega) (by omega) (fun _ => hal) (by omega)
theorem read_pure (b : List Int) (hb : Byt b) (hl : b.length ≤ 140737488355328) : posting_Read.f (2 * b.length + 1) b = some (((rd1 b).1 : Int), ((rd1 b).2 : Int)) := by
  have := read_l0 b hb hl b.length 0 0 (2 * b.length + 1) (by omega) (by omega) (by intro _; decide) (by omega)
  rw [List.drop_zero] at this
  exact this

end Go.Proofs.Ytpebemljgeammab.Pn
