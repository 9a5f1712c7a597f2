/-
  Writing UTF-8, plainly; the program's and the reference's printed functions come to it.
-/
import Derived.Test.YtpebemljgeammaaUx
import Derived.Test.YtpebemljgeammaaPUtfEncodesx2
namespace Go.Proofs.Ytpebemljgeammaa.En
set_option linter.unusedVariables false
set_option linter.unusedSimpArgs false
open Go.RowKit Go.Proofs.YtpebemljgeammaaW.PrintWords Go.Proofs.Ytpebemljgeammaa.Hp

def vld (r : Int) : Bool := decide (0 ≤ r ∧ r ≤ 1114111 ∧ (r < 55296 ∨ 57343 < r))
def encv (r : Int) : List Int :=
  if r < 128 then [r] else if r < 2048 then [192 + r / 64, 128 + r % 64]
  else if r < 65536 then [224 + r / 4096, 128 + r / 64 % 64, 128 + r % 64]
  else [240 + r / 262144, 128 + r / 4096 % 64, 128 + r / 64 % 64, 128 + r % 64]
def fixr (r : Int) : Int := if vld r = true then r else 65533
def enc1 (r : Int) : List Int := encv (fixr r)
def enc : List Int → List Int
  | [] => []
  | r :: l => enc1 r ++ enc l
theorem encv_len (r : Int) : 1 ≤ (encv r).length ∧ (encv r).length ≤ 4 := by
  unfold encv; split <;> (try split) <;> (try split) <;> simp
theorem enc_len : ∀ l, l.length ≤ (enc l).length ∧ (enc l).length ≤ 4 * l.length
  | [] => by simp [enc]
  | r :: l => by
    have := enc_len l
    have h := encv_len (fixr r)
    simp only [enc, enc1, List.length_append, List.length_cons]
    omega
theorem enc_append : ∀ a b, enc (a ++ b) = enc a ++ enc b
  | [], b => rfl
  | r :: a, b => by simp [enc, enc_append a b]
theorem fixr_ok (r : Int) : 0 ≤ fixr r ∧ fixr r ≤ 1114111 ∧ vld (fixr r) = true := by
  unfold fixr
  split
  · rename_i h
    have h2 := h
    simp only [vld, decide_eq_true_eq] at h2
    exact ⟨h2.1, h2.2.1, h⟩
  · exact ⟨by decide, by decide, by decide⟩

theorem i32_and63 (x : Int) (h0 : 0 ≤ x) (h1 : x < 2147483648) : Go.bits .and .i32 x 63 = x % 64 := bits_mask .i32 31 (by decide) wraps_i32 6 (by decide) x h0 (by omega)

/-! the program's -/
theorem valid_pure (r : Int) : PUtfDecodes.utf_Valid.f r = some (vld r) := by
  unfold PUtfDecodes.utf_Valid.f vld
  split
  · split
    · split
      · congr 1; symm; rw [decide_eq_true_eq]; omega
      · congr 1; rw [decide_eq_decide]; omega
    · congr 1; symm; rw [decide_eq_false_iff_not]; omega
  · congr 1; symm; rw [decide_eq_false_iff_not]; omega
theorem ref_valid (r : Int) : PUtfEncodes.tremaref01_Valid.f r = some (vld r) := by
  unfold PUtfEncodes.tremaref01_Valid.f vld
  split
  · split
    · split
      · congr 1
        rw [Bool.eq_iff_iff]
        simp only [Bool.not_eq_true', decide_eq_false_iff_not, decide_eq_true_eq]; omega
      · congr 1; symm; simp only [Bool.not_false, decide_eq_true_eq]; omega
    · congr 1; symm; rw [decide_eq_false_iff_not]; omega
  · congr 1; symm; rw [decide_eq_false_iff_not]; omega

theorem j1_pure (k : Nat) (acc : List Int) (r : Int) (l : List Int) (n i : Int) (h0 : 0 ≤ r) (h1 : r ≤ 1114111) (ha : acc.length + 4 < 140737488355328) :
    PUtfDecodes.utf_Encode.j1 (k + 1) acc r l n i = PUtfDecodes.utf_Encode.l0 k (acc ++ encv r) l n (wrap64 (i + 1)) := by
  simp only [PUtfDecodes.utf_Encode.j1, encv]
  split
  · rw [if_pos (by omega), show r % 256 = r by omega]
  · split
    · simp only [Option.bind_some, List.length_cons, List.length_nil]
      rw [if_pos (by omega), u8_or192 _ (by omega) (by omega), i32_and63 r h0 (by omega), u8_or128 _ (by omega) (by omega), show r / 64 % 256 = r / 64 by omega, show r % 64 % 256 = r % 64 by omega]
    · split
      · simp only [Option.bind_some, List.length_cons, List.length_nil]
        rw [if_pos (by omega), u8_or224 _ (by omega) (by omega), i32_and63 r h0 (by omega), i32_and63 (r / 64) (by omega) (by omega), u8_or128 _ (by omega) (by omega), u8_or128 _ (by omega) (by omega), show r / 4096 % 256 = r / 4096 by omega, show r % 64 % 256 = r % 64 by omega, show r / 64 % 64 % 256 = r / 64 % 64 by omega]
      · simp only [Option.bind_some, List.length_cons, List.length_nil]
        rw [if_pos (by omega), u8_or240 _ (by omega) (by omega), i32_and63 r h0 (by omega), i32_and63 (r / 64) (by omega) (by omega), i32_and63 (r / 4096) (by omega) (by omega), u8_or128 _ (by omega) (by omega), u8_or128 _ (by omega) (by omega), u8_or128 _ (by omega) (by omega), show r / 262144 % 256 = r / 262144 by omega, show r / 4096 % 64 % 256 = r / 4096 % 64 by omega, show r % 64 % 256 = r % 64 by omega, show r / 64 % 64 % 256 = r / 64 % 64 by omega]
theorem enc_loop (l : List Int) (hl : l.length * 4 ≤ 140737488351232) : ∀ (d i k : Nat) (acc : List Int), l.length - i = d → i ≤ l.length → 2 * d < k → acc.length ≤ 4 * i →
    PUtfDecodes.utf_Encode.l0 k acc l (l.length : Int) i = some (acc ++ enc (l.drop i)) := by
  intro d
  induction d with
  | zero =>
    intro i k acc hd hi hk ha
    obtain ⟨k, rfl⟩ : ∃ q, k = q + 1 := ⟨k - 1, by omega⟩
    simp only [PUtfDecodes.utf_Encode.l0]
    rw [if_neg (by omega), List.drop_eq_nil_of_le (by omega)]
    simp [enc]
  | succ d ih =>
    intro i k acc hd hi hk ha
    obtain ⟨k, rfl⟩ : ∃ q, k = q + 2 := ⟨k - 2, by omega⟩
    have hlt : i < l.length := by omega
    simp only [PUtfDecodes.utf_Encode.l0]
    rw [if_pos (by omega), if_pos (by omega), if_pos (by omega), Ux.rd_at l i hlt, valid_pure]
    simp only [Option.bind_some]
    have hw : wrap64 ((i : Int) + 1) = ((i + 1 : Nat) : Int) := by unfold wrap64; omega
    have hf := fixr_ok l[i]
    have e : (if vld l[i] = true then PUtfDecodes.utf_Encode.j1 (k + 1) acc l[i] l (l.length : Int) i else PUtfDecodes.utf_Encode.j1 (k + 1) acc 65533 l (l.length : Int) i) = PUtfDecodes.utf_Encode.j1 (k + 1) acc (fixr l[i]) l (l.length : Int) i := by
      unfold fixr
      split <;> rfl
    rw [e, j1_pure k acc _ l _ _ hf.1 hf.2.1 (by omega), hw]
    have hn := encv_len (fixr l[i])
    rw [ih (i + 1) k _ (by omega) (by omega) (by omega) (by rw [List.length_append]; omega), List.drop_eq_getElem_cons hlt]
    simp [enc, enc1]
theorem enc_pure (l : List Int) (hl : l.length * 4 ≤ 140737488351232) : PUtfDecodes.utf_Encode.f (2 * l.length + 1) l = some (enc l) := by
  have := enc_loop l hl l.length 0 (2 * l.length + 1) [] (by omega) (by omega) (by omega) (by simp)
  simpa [PUtfDecodes.utf_Encode.f] using this

/-! the reference's -/
theorem w32 (x : Int) (h0 : -2147483648 ≤ x) (h1 : x < 2147483648) : wrap32 x = x := by unfold wrap32; omega
theorem put_pure (k : Nat) (acc : List Int) (r : Int) (ha : acc.length + 4 < 140737488355328) : PUtfEncodes.tremaref01_Put.f (k + 1) acc r = some (acc ++ enc1 r) := by
  have key : ∀ r : Int, 0 ≤ r → r ≤ 1114111 → PUtfEncodes.tremaref01_Put.j0 (k + 1) acc r = some (acc ++ encv r) := by
    intro r h0 h1
    simp only [PUtfEncodes.tremaref01_Put.j0, encv]
    have t1 : Int.tdiv r 64 = r / 64 := Int.tdiv_eq_ediv_of_nonneg h0
    have t2 : Int.tdiv r 4096 = r / 4096 := Int.tdiv_eq_ediv_of_nonneg h0
    have t3 : Int.tdiv r 262144 = r / 262144 := Int.tdiv_eq_ediv_of_nonneg h0
    have m1 : Int.tmod r 64 = r % 64 := Int.tmod_eq_emod_of_nonneg h0
    have m2 : Int.tmod (r / 64) 64 = r / 64 % 64 := Int.tmod_eq_emod_of_nonneg (by omega)
    have m3 : Int.tmod (r / 4096) 64 = r / 4096 % 64 := Int.tmod_eq_emod_of_nonneg (by omega)
    split
    · rw [if_pos (by omega), show r % 256 = r by omega]
    · split
      · simp only [Option.bind_some, List.length_cons, List.length_nil]
        rw [if_pos (by omega), t1, w32 (r / 64) (by omega) (by omega), m1, w32 _ (by omega) (by omega), w32 _ (by omega) (by omega), show (192 + r / 64) % 256 = 192 + r / 64 by omega, show (128 + r % 64) % 256 = 128 + r % 64 by omega]
      · split
        · simp only [Option.bind_some, List.length_cons, List.length_nil]
          rw [if_pos (by omega), t1, t2, w32 (r / 64) (by omega) (by omega), w32 (r / 4096) (by omega) (by omega), m1, m2, w32 (224 + _) (by omega) (by omega), w32 (128 + r / 64 % 64) (by omega) (by omega), w32 (128 + r % 64) (by omega) (by omega), show (224 + r / 4096) % 256 = 224 + r / 4096 by omega, show (128 + r % 64) % 256 = 128 + r % 64 by omega, show (128 + r / 64 % 64) % 256 = 128 + r / 64 % 64 by omega]
        · simp only [Option.bind_some, List.length_cons, List.length_nil]
          rw [if_pos (by omega), t1, t2, t3, w32 (r / 64) (by omega) (by omega), w32 (r / 4096) (by omega) (by omega), w32 (r / 262144) (by omega) (by omega), m1, m2, m3, w32 (240 + _) (by omega) (by omega), w32 (128 + r / 64 % 64) (by omega) (by omega), w32 (128 + r / 4096 % 64) (by omega) (by omega), w32 (128 + r % 64) (by omega) (by omega), show (240 + r / 262144) % 256 = 240 + r / 262144 by omega, show (128 + r % 64) % 256 = 128 + r % 64 by omega, show (128 + r / 64 % 64) % 256 = 128 + r / 64 % 64 by omega, show (128 + r / 4096 % 64) % 256 = 128 + r / 4096 % 64 by omega]
  unfold PUtfEncodes.tremaref01_Put.f
  rw [ref_valid]
  simp only [Option.bind_some, enc1]
  have hf := fixr_ok r
  rw [← key _ hf.1 hf.2.1]
  unfold fixr
  split <;> rfl
theorem ref_loop (l : List Int) (hl : l.length * 4 ≤ 140737488351232) : ∀ (d i k : Nat) (acc : List Int), l.length - i = d → i ≤ l.length → d + 1 < k → acc.length ≤ 4 * i →
    PUtfEncodes.tremaref01_Encode.l0 k l acc i = some (acc ++ enc (l.drop i)) := by
  intro d
  induction d with
  | zero =>
    intro i k acc hd hi hk ha
    obtain ⟨k, rfl⟩ : ∃ q, k = q + 1 := ⟨k - 1, by omega⟩
    simp only [PUtfEncodes.tremaref01_Encode.l0]
    rw [if_neg (by omega), List.drop_eq_nil_of_le (by omega)]
    simp [enc]
  | succ d ih =>
    intro i k acc hd hi hk ha
    obtain ⟨k, rfl⟩ : ∃ q, k = q + 2 := ⟨k - 2, by omega⟩
    have hlt : i < l.length := by omega
    rw [PUtfEncodes.tremaref01_Encode.l0]
    rw [if_pos (by omega), if_pos (by omega), Ux.rd_at l i hlt, put_pure k acc _ (by omega)]
    have hw : wrap64 ((i : Int) + 1) = ((i + 1 : Nat) : Int) := by unfold wrap64; omega
    have hn : 1 ≤ (enc1 l[i]).length ∧ (enc1 l[i]).length ≤ 4 := encv_len (fixr l[i])
    have h := ih (i + 1) (k + 1) (acc ++ enc1 l[i]) (by omega) (by omega) (by omega) (by rw [List.length_append]; omega)
    rw [hw, Option.bind_some, h, List.drop_eq_getElem_cons hlt]
    simp [enc]
theorem ref_pure (l : List Int) (hl : l.length * 4 ≤ 140737488351232) : PUtfEncodes.tremaref01_Encode.f (l.length + 2) l = some (enc l) := by
  have := ref_loop l hl l.length 0 (l.length + 2) [] (by omega) (by omega) (by omega) (by simp)
  simpa [PUtfEncodes.tremaref01_Encode.f] using this
theorem enc_byte (l : List Int) : Ux.Bytes (enc l) := by
  induction l with
  | nil => simp [enc, Ux.Bytes]
  | cons r l ih =>
    intro x hx
    simp only [enc] at hx
    rcases List.mem_append.1 hx with hx | hx
    · have hf := fixr_ok r
      unfold enc1 encv at hx
      split at hx
      · simp at hx; omega
      · split at hx
        · simp at hx; omega
        · split at hx <;> simp at hx <;> omega
    · exact ih x hx
end Go.Proofs.Ytpebemljgeammaa.En
