/-
  Which lists are right, which are the same, what a list is written as: plainly; what the printed functions come to.
-/
import Derived.Test.YtpebemljgeammabPn
import Derived.Test.YtpebemljgeammabPPostingKeepsx2
import Derived.Test.YtpebemljgeammabPPostingKeepsx3
namespace Go.Proofs.Ytpebemljgeammab.Pm
set_option linter.unusedVariables false
set_option linter.unusedSimpArgs false
open Go.RowKit Go.Proofs.YtpebemljgeammabW.PrintWords Go.Proofs.YtpebemljgeammabW.PrintMore Go.Proofs.Ytpebemljgeammab.Pn Go.Proofs.Ytpebemljgeammab.PPostingKeeps

def ats (a : Int) : List Int → Bool
  | [] => true
  | n :: r => decide (a < n) && decide (n ≤ 2147483647) && ats n r
def mayF (d : Int) : List S42 → Bool
  | [] => true
  | p :: r => decide (d < p.f0) && decide (p.f0 ≤ 2147483647) && !p.f1.isEmpty && ats (-1) p.f1 && mayF p.f0 r
def may (l : List S42) : Bool := mayF (-1) l
def sz (l : List S42) : Nat := (l.map (fun p => p.f1.length + 4)).sum
theorem sz_cons (p : S42) (l : List S42) : sz (p :: l) = p.f1.length + 4 + sz l := by simp [sz]
def Fine (l : List S42) : Prop := l.length ≤ 9223372036854775807 ∧ ∀ p, p ∈ l → p.f1.length ≤ 9223372036854775807

theorem drop_S {l : List S42} {i : Nat} (h : i < l.length) : l.drop i = rd_T42 l i :: l.drop (i + 1) := by
  rw [List.drop_eq_getElem_cons h]
  unfold rd_T42
  simp [List.getElem?_eq_getElem h]
theorem rd_mem {l : List S42} {i : Nat} (h : i < l.length) : rd_T42 l i ∈ l := by
  have e : rd_T42 l i = l[i] := by unfold rd_T42; simp [List.getElem?_eq_getElem h]
  rw [e]; exact List.getElem_mem h
theorem w1 {i : Nat} {n : Nat} (h : i < n) (hn : n ≤ 9223372036854775807) : wrap64 ((i : Int) + 1) = ((i + 1 : Nat) : Int) := by unfold wrap64; omega

/-! the program's May -/
theorem may_l1 (l : List S42) (i : Nat) (hi : i < l.length) (hF : Fine l) (R : Bool) (d : Int) (B : Nat) (hR : ∀ k, B ≤ k → posting_May.l0 k d l l.length ((i + 1 : Nat) : Int) = some R) (f1 : List Int) (hf : f1.length ≤ 9223372036854775807) : ∀ (m j : Nat) (a : Int) (k : Nat), f1.length - j = m → j ≤ f1.length → m + 1 + B ≤ k →
    posting_May.l1 k d a l l.length i f1 f1.length j = some (ats a (f1.drop j) && R) := by
  intro m
  induction m with
  | zero =>
    intro j a k hm hj hk
    obtain ⟨k, rfl⟩ : ∃ k', k = k' + 1 := ⟨k - 1, by omega⟩
    rw [posting_May.l1, if_neg (by omega), List.drop_of_length_le (by omega), w1 hi hF.1, hR k (by omega)]
    rfl
  | succ m ih =>
    intro j a k hm hj hk
    obtain ⟨k, rfl⟩ : ∃ k', k = k' + 1 := ⟨k - 1, by omega⟩
    have hlt : j < f1.length := by omega
    rw [posting_May.l1, if_pos (by omega), if_pos (by omega), if_pos (by omega), drop_rd hlt, ats, w1 hlt hf, ih (j + 1) _ k (by omega) (by omega) (by omega)]
    split
    · rw [decide_eq_false (by omega)]; simp
    · split
      · rw [decide_eq_false (p := rd f1 j ≤ 2147483647) (by omega)]; simp
      · rw [decide_eq_true (by omega), decide_eq_true (by omega)]; simp
theorem may_l0 (l : List S42) (hF : Fine l) : ∀ (m i : Nat) (d : Int) (k : Nat), l.length - i = m → i ≤ l.length → sz (l.drop i) + 1 ≤ k → posting_May.l0 k d l l.length i = some (mayF d (l.drop i)) := by
  intro m
  induction m with
  | zero =>
    intro i d k hm hi hk
    obtain ⟨k, rfl⟩ : ∃ k', k = k' + 1 := ⟨k - 1, by omega⟩
    rw [posting_May.l0, if_neg (by omega), List.drop_of_length_le (by omega)]
    rfl
  | succ m ih =>
    intro i d k hm hi hk
    have hlt : i < l.length := by omega
    rw [drop_S hlt, sz_cons] at hk
    obtain ⟨k, rfl⟩ : ∃ k', k = k' + 2 := ⟨k - 2, by omega⟩
    have hmem := hF.2 _ (rd_mem hlt)
    rw [posting_May.l0, if_pos (by omega), if_pos (by omega), if_pos (by omega), drop_S hlt]
    generalize rd_T42 l i = p at *
    have hj : (if p.f0 ≤ d then (posting_May.j1 (k + 1) l l.length i true p.f0 p.f1) else (if p.f0 > 2147483647 then (posting_May.j1 (k + 1) l l.length i true p.f0 p.f1) else (posting_May.j1 (k + 1) l l.length i ((p.f1.length : Int) == 0) p.f0 p.f1))) = posting_May.j1 (k + 1) l l.length i (!(decide (d < p.f0) && decide (p.f0 ≤ 2147483647) && !p.f1.isEmpty)) p.f0 p.f1 := by
      split
      · rw [decide_eq_false (by omega)]; simp
      · split
        · rw [decide_eq_false (p := p.f0 ≤ 2147483647) (by omega)]; simp
        · rw [decide_eq_true (by omega), decide_eq_true (by omega)]
          congr 1
          cases p.f1 <;> simp
          omega
    rw [hj, posting_May.j1, mayF]
    cases hg : (decide (d < p.f0) && decide (p.f0 ≤ 2147483647) && !p.f1.isEmpty) with
    | false => rfl
    | true =>
      rw [if_neg (by simp)]
      have h1 := may_l1 l i hlt hF (mayF p.f0 (l.drop (i + 1))) p.f0 (sz (l.drop (i + 1)) + 1) (fun k hk => ih (i + 1) p.f0 k (by omega) (by omega) hk) p.f1 hmem p.f1.length 0 (-1) k (by omega) (by omega) (by omega)
      rw [List.drop_zero] at h1
      rw [Bool.true_and]
      exact h1
theorem may_pure (l : List S42) (hF : Fine l) : posting_May.f (sz l + 1) l = some (may l) := may_l0 l hF l.length 0 (-1) _ (by omega) (by omega) (by simp)

/-! the reference's -/
theorem rmay_l1 (l : List S42) (i : Nat) (hi : i < l.length) (hF : Fine l) (R : Bool) (B : Nat) (hR : ∀ k, B ≤ k → tremaref14_May.l0 k l ((i + 1 : Nat) : Int) = some R) : ∀ (m j : Nat) (a : Int) (k : Nat), (rd_T42 l i).f1.length - j = m → j ≤ (rd_T42 l i).f1.length → (j = 0 ∧ a = -1 ∨ 0 < j ∧ a = rd (rd_T42 l i).f1 ((j - 1 : Nat) : Int) ∧ 0 ≤ a) → m + 1 + B ≤ k →
    tremaref14_May.l1 k l i j = some (ats a ((rd_T42 l i).f1.drop j) && R) := by
  have hf := hF.2 _ (rd_mem hi)
  intro m
  induction m with
  | zero =>
    intro j a k hm hj ha hk
    obtain ⟨k, rfl⟩ : ∃ k', k = k' + 1 := ⟨k - 1, by omega⟩
    rw [tremaref14_May.l1, if_pos (by omega), if_pos (by omega), if_neg (by omega), List.drop_of_length_le (by omega), w1 hi hF.1, hR k (by omega)]
    rfl
  | succ m ih =>
    intro j a k hm hj ha hk
    obtain ⟨k, rfl⟩ : ∃ k', k = k' + 1 := ⟨k - 1, by omega⟩
    have hlt : j < (rd_T42 l i).f1.length := by omega
    rw [tremaref14_May.l1, if_pos (by omega), if_pos (by omega), if_pos (by omega), if_pos (by omega), drop_rd hlt, ats, w1 hlt hf]
    have hih := fun ha => ih (j + 1) (rd (rd_T42 l i).f1 j) k (by omega) (by omega) ha (by omega)
    split
    · rw [decide_eq_false (by omega)]; simp
    · split
      · rw [decide_eq_false (p := rd (rd_T42 l i).f1 j ≤ 2147483647) (by omega)]; simp
      · have hih' := hih (.inr ⟨by omega, rfl, by omega⟩)
        rw [decide_eq_true (p := rd (rd_T42 l i).f1 j ≤ 2147483647) (by omega), hih', Bool.and_true]
        split
        · have e : wrap64 ((j : Int) - 1) = ((j - 1 : Nat) : Int) := by unfold wrap64; omega
          rw [e, if_pos (by omega), if_pos (by omega)]
          have ea : rd (rd_T42 l i).f1 ((j - 1 : Nat) : Int) = a := by
            rcases ha with ⟨h, _⟩ | ⟨_, h, _⟩
            · omega
            · exact h.symm
          rw [ea]
          split
          · rw [decide_eq_false (by omega)]; simp
          · rw [decide_eq_true (by omega)]; simp
        · rw [decide_eq_true (by omega)]; simp
theorem rmay_l0 (l : List S42) (hF : Fine l) : ∀ (m i : Nat) (d : Int) (k : Nat), l.length - i = m → i ≤ l.length → (i = 0 ∧ d = -1 ∨ 0 < i ∧ d = (rd_T42 l ((i - 1 : Nat) : Int)).f0 ∧ 0 ≤ d) → sz (l.drop i) + 1 ≤ k → tremaref14_May.l0 k l i = some (mayF d (l.drop i)) := by
  intro m
  induction m with
  | zero =>
    intro i d k hm hi hd hk
    obtain ⟨k, rfl⟩ : ∃ k', k = k' + 1 := ⟨k - 1, by omega⟩
    rw [tremaref14_May.l0, if_neg (by omega), List.drop_of_length_le (by omega)]
    rfl
  | succ m ih =>
    intro i d k hm hi hd hk
    have hlt : i < l.length := by omega
    rw [drop_S hlt, sz_cons] at hk
    obtain ⟨k, rfl⟩ : ∃ k', k = k' + 2 := ⟨k - 2, by omega⟩
    rw [tremaref14_May.l0, if_pos (by omega), if_pos (by omega), drop_S hlt]
    have hl1 := fun d' hd' => rmay_l1 l i hlt hF (mayF d' (l.drop (i + 1))) (sz (l.drop (i + 1)) + 1) (fun k hk => ih (i + 1) d' k (by omega) (by omega) hd' hk) (rd_T42 l i).f1.length 0 (-1) k (by omega) (by omega) (.inl ⟨rfl, rfl⟩) (by omega)
    obtain ⟨p, hp⟩ : ∃ p, p = rd_T42 l i := ⟨_, rfl⟩
    have hed : 0 < i → (rd_T42 l ((i - 1 : Nat) : Int)).f0 = d := fun h => by
      rcases hd with ⟨h2, _⟩ | ⟨_, h2, _⟩
      · omega
      · exact h2.symm
    have e : 0 < i → wrap64 ((i : Int) - 1) = ((i - 1 : Nat) : Int) := fun h => by have := hF.1; unfold wrap64; omega
    have hj : (if (rd_T42 l i).f0 < 0 then (tremaref14_May.j1 (k + 1) l i true) else (if (rd_T42 l i).f0 > 2147483647 then (tremaref14_May.j1 (k + 1) l i true) else (if (i : Int) > 0 then (if 0 ≤ (wrap64 ((i : Int) - 1)) then (if (wrap64 ((i : Int) - 1)) < (l.length : Int) then (if (rd_T42 l i).f0 ≤ ((rd_T42 l (wrap64 ((i : Int) - 1))).f0) then (tremaref14_May.j1 (k + 1) l i true) else (tremaref14_May.j1 (k + 1) l i (((rd_T42 l i).f1.length : Int) == 0))) else (none)) else (none)) else (tremaref14_May.j1 (k + 1) l i (((rd_T42 l i).f1.length : Int) == 0))))) = tremaref14_May.j1 (k + 1) l i (!(decide (d < (rd_T42 l i).f0) && decide ((rd_T42 l i).f0 ≤ 2147483647) && !(rd_T42 l i).f1.isEmpty)) := by
      rw [← hp]
      have hem : ((p.f1.length : Int) == 0) = !(true && true && !p.f1.isEmpty) := by cases p.f1 <;> simp; omega
      split
      · rw [decide_eq_false (by omega)]; simp
      · split
        · rw [decide_eq_false (p := p.f0 ≤ 2147483647) (by omega)]; simp
        · rw [decide_eq_true (p := p.f0 ≤ 2147483647) (by omega)]
          split
          · rw [e (by omega), if_pos (by omega), if_pos (by omega), hed (by omega)]
            split
            · rw [decide_eq_false (by omega)]; simp
            · rw [decide_eq_true (by omega), hem]
          · rw [decide_eq_true (by omega), hem]
    rw [hj, tremaref14_May.j1, mayF]
    cases hg : (decide (d < (rd_T42 l i).f0) && decide ((rd_T42 l i).f0 ≤ 2147483647) && !(rd_T42 l i).f1.isEmpty) with
    | false => rfl
    | true =>
      rw [if_neg (by simp)]
      have hd0 : 0 ≤ (rd_T42 l i).f0 := by
        simp only [Bool.and_eq_true, decide_eq_true_eq] at hg
        omega
      have h1 := hl1 (rd_T42 l i).f0 (.inr ⟨by omega, rfl, hd0⟩)
      rw [List.drop_zero] at h1
      rw [Bool.true_and]
      exact h1
theorem rmay_pure (l : List S42) (hF : Fine l) : tremaref14_May.f (sz l + 1) l = some (may l) := rmay_l0 l hF l.length 0 (-1) _ (by omega) (by omega) (.inl ⟨rfl, rfl⟩) (by simp)

/-! Same -/
theorem S_ext {a b : S42} (h0 : a.f0 = b.f0) (h1 : a.f1 = b.f1) : a = b := by cases a; cases b; simp_all
def sameP (a b : S42) : Bool := decide (a.f0 = b.f0 ∧ a.f1 = b.f1)
def sameL : List S42 → List S42 → Bool
  | [], [] => true
  | a :: l, b :: m => sameP a b && sameL l m
  | _, _ => false
theorem sameL_iff : ∀ a b : List S42, sameL a b = true ↔ a = b
  | [], [] => by simp [sameL]
  | [], _ :: _ => by simp [sameL]
  | _ :: _, [] => by simp [sameL]
  | a :: l, b :: m => by
    rw [sameL, Bool.and_eq_true, sameL_iff l m, List.cons.injEq]
    unfold sameP
    rw [decide_eq_true_eq]
    exact ⟨fun h => ⟨S_ext h.1.1 h.1.2, h.2⟩, fun h => ⟨by rw [h.1]; exact ⟨rfl, rfl⟩, h.2⟩⟩
theorem same_l1 (a b : List S42) (i : Nat) (ha : i < a.length) (hb : i < b.length) (hF : Fine a) (hl : (rd_T42 a i).f1.length = (rd_T42 b i).f1.length) (R : Bool) (B : Nat) (hR : ∀ k, B ≤ k → tremaref14_Same.l0 k a b ((i + 1 : Nat) : Int) = some R) : ∀ (m j : Nat) (k : Nat), (rd_T42 a i).f1.length - j = m → j ≤ (rd_T42 a i).f1.length → m + 1 + B ≤ k →
    tremaref14_Same.l1 k a b i j = some (decide ((rd_T42 a i).f1.drop j = (rd_T42 b i).f1.drop j) && R) := by
  have hf := hF.2 _ (rd_mem ha)
  intro m
  induction m with
  | zero =>
    intro j k hm hj hk
    obtain ⟨k, rfl⟩ : ∃ k', k = k' + 1 := ⟨k - 1, by omega⟩
    rw [tremaref14_Same.l1, if_pos (by omega), if_pos (by omega), if_neg (by omega), List.drop_of_length_le (by omega), List.drop_of_length_le (by omega), w1 ha hF.1, hR k (by omega)]
    simp
  | succ m ih =>
    intro j k hm hj hk
    obtain ⟨k, rfl⟩ : ∃ k', k = k' + 1 := ⟨k - 1, by omega⟩
    have hlt : j < (rd_T42 a i).f1.length := by omega
    rw [tremaref14_Same.l1, if_pos (by omega), if_pos (by omega), if_pos (by omega), if_pos (by omega), if_pos (by omega), if_pos (by omega), drop_rd hlt, drop_rd (show j < (rd_T42 b i).f1.length by omega), w1 hlt hf, ih (j + 1) k (by omega) (by omega) (by omega)]
    split
    · rename_i h
      rw [h]; simp
    · rename_i h
      simp [h]
theorem same_l0 (a b : List S42) (hab : a.length = b.length) (hF : Fine a) : ∀ (m i : Nat) (k : Nat), a.length - i = m → i ≤ a.length → sz (a.drop i) + 1 ≤ k → tremaref14_Same.l0 k a b i = some (sameL (a.drop i) (b.drop i)) := by
  intro m
  induction m with
  | zero =>
    intro i k hm hi hk
    obtain ⟨k, rfl⟩ : ∃ k', k = k' + 1 := ⟨k - 1, by omega⟩
    rw [tremaref14_Same.l0, if_neg (by omega), List.drop_of_length_le (by omega), List.drop_of_length_le (by omega)]
    rfl
  | succ m ih =>
    intro i k hm hi hk
    have hlt : i < a.length := by omega
    rw [drop_S hlt, sz_cons] at hk
    obtain ⟨k, rfl⟩ : ∃ k', k = k' + 2 := ⟨k - 2, by omega⟩
    have hlb : i < b.length := by omega
    rw [tremaref14_Same.l0, if_pos (by omega), if_pos (by omega), if_pos (by omega), drop_S hlt, drop_S hlb, sameL]
    have hj : (if (rd_T42 a i).f0 = (rd_T42 b i).f0 then (tremaref14_Same.j1 (k + 1) a b i (((rd_T42 a i).f1.length : Int) != ((rd_T42 b i).f1.length : Int))) else (tremaref14_Same.j1 (k + 1) a b i true)) = tremaref14_Same.j1 (k + 1) a b i (!(decide ((rd_T42 a i).f0 = (rd_T42 b i).f0 ∧ (rd_T42 a i).f1.length = (rd_T42 b i).f1.length))) := by
      split
      · rename_i h
        congr 1
        rw [Bool.eq_iff_iff]
        simp only [bne_iff_ne, ne_eq, Bool.not_eq_true', decide_eq_false_iff_not, h, true_and]
        omega
      · rename_i h
        simp [h]
    rw [hj, tremaref14_Same.j1]
    by_cases hg : (rd_T42 a i).f0 = (rd_T42 b i).f0 ∧ (rd_T42 a i).f1.length = (rd_T42 b i).f1.length
    · rw [decide_eq_true hg, if_neg (by simp)]
      have h1 := same_l1 a b i hlt hlb hF hg.2 (sameL (a.drop (i + 1)) (b.drop (i + 1))) (sz (a.drop (i + 1)) + 1) (fun k hk => ih (i + 1) k (by omega) (by omega) hk) (rd_T42 a i).f1.length 0 k (by omega) (by omega) (by omega)
      rw [List.drop_zero, List.drop_zero] at h1
      unfold sameP
      simp only [hg.1, true_and]
      exact h1
    · rw [decide_eq_false hg, if_pos (by simp)]
      unfold sameP
      rw [decide_eq_false (fun h => hg ⟨h.1, by rw [h.2]⟩)]
      rfl
theorem same_pure (a b : List S42) (hF : Fine a) : tremaref14_Same.f (sz a + 1) a b = some (sameL a b) := by
  unfold tremaref14_Same.f
  split
  · rename_i h
    exact same_l0 a b (by omega) hF a.length 0 _ (by omega) (by omega) (by simp)
  · rename_i h
    have e : sameL a b = false := by
      rw [Bool.eq_false_iff]
      intro h2
      rw [(sameL_iff a b).1 h2] at h
      exact h rfl
    rw [e]
end Go.Proofs.Ytpebemljgeammab.Pm
