/-
  Reading and writing back, plainly: a text's pieces; what was well-formed is written as it was.
-/
import Derived.Test.YtpebemljgeammaaRt
namespace Go.Proofs.Ytpebemljgeammaa.Bk
set_option linter.unusedVariables false
set_option linter.unusedSimpArgs false
open Go.RowKit Go.Proofs.YtpebemljgeammaaW.PrintWords Go.Proofs.Ytpebemljgeammaa.Hp Go.Proofs.Ytpebemljgeammaa.Ux Go.Proofs.Ytpebemljgeammaa.En Go.Proofs.Ytpebemljgeammaa.Rt Go.Proofs.Ytpebemljgeammaa.PUtfDecodes

/-- All points of bytes that stand at p. -/
def ful (b : List Int) (p : Int) : List S72 := (dc b p).1 ++ rest1 (dc b p).2.1 (dc b p).2.2
theorem full_ful (b : List Int) : full b = ful b 0 := rfl
theorem ful_nil (p : Int) : ful [] p = [] := by simp [ful, dc_nil, rest1]
theorem ful_cons (c : Int) (t : List Int) (p : Int) : ful (c :: t) p = (⟨(one1 c t).1, p, (one1 c t).2.1⟩ : S72) :: ful ((c :: t).drop (one1 c t).2.1.toNat) (p + (one1 c t).2.1) := by
  cases h : (one1 c t).2.2 with
  | true =>
    have h3 := one1_more c t h
    have e : (c :: t).drop (one1 c t).2.1.toNat = [] := by rw [h3.2.1]; exact List.drop_eq_nil_of_le (by simp; omega)
    rw [e, ful_nil]
    unfold ful
    rw [dc_cons, if_pos h]
    simp [rest1, h3.1, h3.2.1]
    omega
  | false =>
    unfold ful
    rw [dc_cons, if_neg (by simp [h])]
    simp
theorem ful_enc1 (r : Int) (s : List Int) (p : Int) : ful (enc1 r ++ s) p = (⟨fixr r, p, (enc1 r).length⟩ : S72) :: ful s (p + (enc1 r).length) := by
  unfold ful enc1
  rw [dc_encv (fixr r) (fixr_ok r).2.2 s p]
  simp

theorem vld_bad : vld 65533 = true := by decide
theorem one1_good (c : Int) (t : List Int) (hc : 0 ≤ c ∧ c ≤ 255) (hB : Bytes t) : vld (one1 c t).1 = true ∧ ((one1 c t).1 ≠ 65533 → encv (one1 c t).1 = (c :: t).take (one1 c t).2.1.toNat) := by
  unfold one1 bnd st
  by_cases h1 : c < 128
  · rw [if_pos h1, if_pos h1]
    simp only [cont]
    refine ⟨by simp only [vld, decide_eq_true_eq]; omega, fun _ => ?_⟩
    unfold encv
    rw [if_pos h1]; rfl
  · rw [if_neg h1, if_neg h1]
    by_cases h2 : c < 194 ∨ 244 < c
    · rw [if_pos h2]
      exact ⟨vld_bad, fun h => absurd rfl h⟩
    · rw [if_neg h2]
      by_cases h3 : c < 224
      · rw [if_pos h3, if_pos h3]
        cases t with
        | nil => exact ⟨vld_bad, fun h => absurd rfl h⟩
        | cons x t =>
          simp only [cont]
          by_cases hx : x < 128 ∨ 191 < x
          · rw [if_pos hx]; exact ⟨vld_bad, fun h => absurd rfl h⟩
          · rw [if_neg hx]
            simp only
            refine ⟨by simp only [vld, decide_eq_true_eq]; omega, fun _ => ?_⟩
            unfold encv
            rw [if_neg (by omega), if_pos (by omega)]
            show _ = [c, x]
            congr 1
            · omega
            · congr 1; omega
      · rw [if_neg h3, if_neg h3]
        by_cases h4 : c < 240
        · rw [if_pos h4, if_pos h4]
          cases t with
          | nil => exact ⟨vld_bad, fun h => absurd rfl h⟩
          | cons x t =>
            simp only [cont]
            by_cases hx : x < (if c = 224 then 160 else 128) ∨ (if c = 237 then 159 else 191) < x
            · rw [if_pos hx]; exact ⟨vld_bad, fun h => absurd rfl h⟩
            · rw [if_neg hx]
              cases t with
              | nil => exact ⟨vld_bad, fun h => absurd rfl h⟩
              | cons y t =>
                simp only [cont]
                by_cases hy : y < 128 ∨ 191 < y
                · rw [if_pos hy]; exact ⟨vld_bad, fun h => absurd rfl h⟩
                · rw [if_neg hy]
                  simp only
                  have hx' : (c = 224 → 160 ≤ x) ∧ (c = 237 → x ≤ 159) ∧ 128 ≤ x ∧ x ≤ 191 := by
                    refine ⟨fun h => ?_, fun h => ?_, ?_, ?_⟩
                    · rw [if_pos h] at hx; omega
                    · rw [if_pos h] at hx; omega
                    · split at hx <;> omega
                    · split at hx <;> split at hx <;> omega
                  clear hx
                  refine ⟨by simp only [vld, decide_eq_true_eq]; omega, fun _ => ?_⟩
                  unfold encv
                  rw [if_neg (by omega), if_neg (by omega), if_pos (by omega)]
                  show _ = [c, x, y]
                  congr 1
                  · omega
                  · congr 1
                    · omega
                    · congr 1; omega
        · rw [if_neg h4, if_neg h4]
          cases t with
          | nil => exact ⟨vld_bad, fun h => absurd rfl h⟩
          | cons x t =>
            simp only [cont]
            by_cases hx : x < (if c = 240 then 144 else 128) ∨ (if c = 244 then 143 else 191) < x
            · rw [if_pos hx]; exact ⟨vld_bad, fun h => absurd rfl h⟩
            · rw [if_neg hx]
              cases t with
              | nil => exact ⟨vld_bad, fun h => absurd rfl h⟩
              | cons y t =>
                simp only [cont]
                by_cases hy : y < 128 ∨ 191 < y
                · rw [if_pos hy]; exact ⟨vld_bad, fun h => absurd rfl h⟩
                · rw [if_neg hy]
                  cases t with
                  | nil => exact ⟨vld_bad, fun h => absurd rfl h⟩
                  | cons z t =>
                    simp only [cont]
                    by_cases hz : z < 128 ∨ 191 < z
                    · rw [if_pos hz]; exact ⟨vld_bad, fun h => absurd rfl h⟩
                    · rw [if_neg hz]
                      simp only
                      have hx' : (c = 240 → 144 ≤ x) ∧ (c = 244 → x ≤ 143) ∧ 128 ≤ x ∧ x ≤ 191 := by
                        refine ⟨fun h => ?_, fun h => ?_, ?_, ?_⟩
                        · rw [if_pos h] at hx; omega
                        · rw [if_pos h] at hx; omega
                        · split at hx <;> omega
                        · split at hx <;> split at hx <;> omega
                      clear hx
                      refine ⟨by simp only [vld, decide_eq_true_eq]; omega, fun _ => ?_⟩
                      unfold encv
                      rw [if_neg (by omega), if_neg (by omega), if_neg (by omega)]
                      show _ = [c, x, y, z]
                      congr 1
                      · omega
                      · congr 1
                        · omega
                        · congr 1
                          · omega
                          · congr 1; omega

def piece (b : List Int) (x : S72) : List Int := (b.drop x.f1.toNat).take x.f2.toNat
def okp (b : List Int) (x : S72) : Bool := (x.f0 != 65533) || decide (piece b x = [239, 191, 189])
theorem enc1_good (r : Int) (h : vld r = true) : enc1 r = encv r := by unfold enc1 fixr; rw [if_pos h]
theorem enc1_bad : enc1 65533 = [239, 191, 189] := by decide
theorem whole_at (b : List Int) (hb : Bytes b) : ∀ (n : Nat) (pre rest : List Int), rest.length = n → b = pre ++ rest → (ful rest pre.length).all (okp b) = decide (enc ((ful rest pre.length).map (·.f0)) = rest) := by
  intro n
  induction n using Nat.strongRecOn with
  | _ n ih =>
    intro pre rest hn he
    cases rest with
    | nil => simp [ful_nil, enc]
    | cons c t =>
      have hB : Bytes (c :: t) := fun x hx => hb x (by rw [he]; exact List.mem_append_right _ hx)
      have hw := one1_width c t
      have hg := one1_good c t (hB c List.mem_cons_self) (fun x hx => hB x (List.mem_cons_of_mem _ hx))
      rw [ful_cons]
      obtain ⟨r, hr⟩ : ∃ r, r = (one1 c t).1 := ⟨_, rfl⟩
      obtain ⟨w, hww⟩ : ∃ w : Nat, (one1 c t).2.1 = w := ⟨(one1 c t).2.1.toNat, by omega⟩
      have hfc := ful_cons c t pre.length
      rw [← hr, hww] at hg hfc ⊢
      rw [hww] at hw
      rw [Int.toNat_natCast] at hg hfc ⊢
      have hwl : w ≤ (c :: t).length := by rw [List.length_cons]; omega
      have hpl : ((pre ++ (c :: t).take w).length : Int) = (pre.length : Int) + w := by rw [List.length_append, List.length_take, Nat.min_eq_left hwl]; push_cast; rfl
      have hih := ih ((c :: t).drop w).length (by rw [List.length_drop]; omega) (pre ++ (c :: t).take w) ((c :: t).drop w) rfl (by rw [List.append_assoc, List.take_append_drop]; exact he)
      rw [hpl] at hih
      simp only [List.all_cons, List.map_cons, enc]
      rw [hih]
      obtain ⟨E, hE⟩ : ∃ E, E = enc ((ful ((c :: t).drop w) ((pre.length : Int) + w)).map (·.f0)) := ⟨_, rfl⟩
      rw [← hE]
      have hpc : piece b (⟨r, pre.length, w⟩ : S72) = (c :: t).take w := by
        unfold piece
        simp only [Int.toNat_natCast]
        rw [he, List.drop_left]
      have hok : okp b (⟨r, pre.length, w⟩ : S72) = decide (enc1 r = (c :: t).take w) := by
        unfold okp
        rw [hpc]
        by_cases h5 : r = 65533
        · subst h5
          simp only [bne_self_eq_false, Bool.false_or, enc1_bad]
          rw [decide_eq_decide]
          exact eq_comm
        · have e1 : (r != 65533) = true := by simpa using h5
          simp only [e1, Bool.true_or]
          symm
          rw [decide_eq_true_eq, enc1_good r hg.1]
          exact hg.2 h5
      rw [hok, Bool.eq_iff_iff]
      simp only [Bool.and_eq_true, decide_eq_true_eq]
      constructor
      · rintro ⟨h1, h2⟩
        rw [h1, h2, List.take_append_drop]
      · intro h1
        have hle : (enc1 r).length = w := by
          have h2 := ful_enc1 r E (pre.length : Int)
          rw [h1, hfc] at h2
          injection h2 with h2 _
          have h3 := congrArg S72.f2 h2
          simp only at h3
          omega
        have h2 : enc1 r ++ E = (c :: t).take w ++ (c :: t).drop w := by rw [List.take_append_drop]; exact h1
        exact List.append_inj h2 (by rw [hle, List.length_take, Nat.min_eq_left hwl])
theorem whole (b : List Int) (hb : Bytes b) : (full b).all (okp b) = decide (enc ((full b).map (·.f0)) = b) := whole_at b hb b.length [] b rfl rfl

theorem ful_step (b : List Int) (hb : Bytes b) (L : List S72) (k a : Nat) (ha : a ≤ b.length) (h : L.drop k = ful (b.drop a) a) (hk : k < L.length) :
    ∃ (r : Int) (w : Nat), L[k]? = some (⟨r, a, w⟩ : S72) ∧ 1 ≤ w ∧ w ≤ 4 ∧ a + w ≤ b.length ∧ vld r = true ∧ L.drop (k + 1) = ful (b.drop (a + w)) ((a + w : Nat) : Int) := by
  rw [List.drop_eq_getElem_cons hk] at h
  cases hd : b.drop a with
  | nil => rw [hd, ful_nil] at h; cases h
  | cons c t =>
    have hB : Bytes (c :: t) := by rw [← hd]; exact bytes_drop hb a
    have hw := one1_width c t
    have hg := one1_good c t (hB c List.mem_cons_self) (fun x hx => hB x (List.mem_cons_of_mem _ hx))
    have hl : (b.drop a).length = t.length + 1 := by rw [hd]; rfl
    rw [List.length_drop] at hl
    rw [hd, ful_cons] at h
    obtain ⟨w, hww⟩ : ∃ w : Nat, (one1 c t).2.1 = w := ⟨(one1 c t).2.1.toNat, by omega⟩
    rw [hww] at h hw
    rw [Int.toNat_natCast] at h
    injection h with h1 h2
    refine ⟨(one1 c t).1, w, ?_, by omega, by omega, by omega, hg.1, ?_⟩
    · rw [List.getElem?_eq_getElem hk, h1]
    · rw [h2, ← hd, List.drop_drop]
      push_cast
      rfl
theorem ful_end (b : List Int) (L : List S72) (a : Nat) (ha : a ≤ b.length) (h : L.drop L.length = ful (b.drop a) a) : a = b.length := by
  rw [List.drop_length] at h
  cases hd : b.drop a with
  | nil =>
    have := congrArg List.length hd
    rw [List.length_drop] at this
    simp at this
    omega
  | cons c t => rw [hd, ful_cons] at h; cases h

/-- What was written is read: rune by rune. -/
theorem ful_enc : ∀ (l : List Int) (p : Int), (ful (enc l) p).map (·.f0) = l.map fixr
  | [], p => by simp [enc, ful_nil]
  | r :: l, p => by
    simp only [enc]
    rw [ful_enc1]
    simp [ful_enc l]
theorem str_inj {a b : List Int} (ha : Bytes a) (hb : Bytes b) (h : strOfNums a = strOfNums b) : a = b := by
  have h1 : a.map (fun n => UInt8.ofNat n.toNat) = b.map (fun n => UInt8.ofNat n.toNat) := by rw [← strOfNums_data, ← strOfNums_data, h]
  clear h
  induction a generalizing b with
  | nil => cases b with
    | nil => rfl
    | cons y b => simp at h1
  | cons x a ih =>
    cases b with
    | nil => simp at h1
    | cons y b =>
      simp only [List.map_cons] at h1
      injection h1 with h2 h3
      have hx := ha x List.mem_cons_self
      have hy := hb y List.mem_cons_self
      have h4 := congrArg UInt8.toNat h2
      simp only [UInt8.toNat_ofNat'] at h4
      have : x = y := by omega
      rw [this, ih (fun z hz => ha z (List.mem_cons_of_mem _ hz)) (fun z hz => hb z (List.mem_cons_of_mem _ hz)) h3]
end Go.Proofs.Ytpebemljgeammaa.Bk
