/-
  Several texts of this claim in one: what its law's proof uses.
-/
import Derived.Test.YthffpkdadffinaaDoorMWT2
import Derived.WalkSpells
import Derived.Test.YthffpkdadffinaaDoorProg
import Derived.Deep.MidRow
import Derived.WalkKit
import Derived.WalkLawsBesides
import Derived.Deep.QuietTactic
import Derived.BigRegion
import Derived.RegionTactic
import Derived.BigQuiet
namespace Go.Proofs.YthffpkdadffinaaDoor.En
set_option linter.unusedVariables false
set_option linter.unusedSimpArgs false
open Go.RowKit YthffpkdadffinaaDoorW.PrintWords Hp
def vld (r : Int) : Bool := decide (0 ≤ r ∧ r ≤ 1114111 ∧ (r < 55296 ∨ 57343 < r))
def encv (r : Int) : List Int :=
  if r < 128 then [r] else if r < 2048 then [192 + r / 64, 128 + r % 64]
  else if r < 65536 then [224 + r / 4096, 128 + r / 64 % 64, 128 + r % 64]
  else [240 + r / 262144, 128 + r / 4096 % 64, 128 + r / 64 % 64, 128 + r % 64]
def fixr (r : Int) : Int := if vld r = true then r else 65533
def enc1 (r : Int) : List Int := encv (fixr r)
def enc : List Int → List Int
  | [] => []
  | r :: l => enc1 r ++ enc l
theorem encv_len (r : Int) : 1 ≤ (encv r).length ∧ (encv r).length ≤ 4 := by
  unfold encv; split <;> (try split) <;> (try split) <;> simp
theorem enc_len : ∀ l, l.length ≤ (enc l).length ∧ (enc l).length ≤ 4 * l.length
  | [] => by simp [enc]
  | r :: l => by
    have := enc_len l; have h := encv_len (fixr r); simp only [enc, enc1, List.length_append, List.length_cons]; omega
theorem enc_append : ∀ a b, enc (a ++ b) = enc a ++ enc b
  | [], b => rfl
  | r :: a, b => by simp [enc, enc_append a b]
theorem fixr_ok (r : Int) : 0 ≤ fixr r ∧ fixr r ≤ 1114111 ∧ vld (fixr r) = true := by
  unfold fixr; split
  · rename_i h; have h2 := h; simp only [vld, decide_eq_true_eq] at h2; exact ⟨h2.1, h2.2.1, h⟩
  · exact ⟨by decide, by decide, by decide⟩
theorem i32_and63 (x : Int) (h0 : 0 ≤ x) (h1 : x < 2147483648) : Go.bits .and .i32 x 63 = x % 64 := bits_mask .i32 31 (by decide) wraps_i32 6 (by decide) x h0 (by omega)
theorem valid_pure (r : Int) : X.utf_Valid.f r = some (vld r) := by
  unfold X.utf_Valid.f vld; split
  · split
    · split
      · congr 1; symm; rw [decide_eq_true_eq]; omega
      · congr 1; rw [decide_eq_decide]; omega
    · congr 1; symm; rw [decide_eq_false_iff_not]; omega
  · congr 1; symm; rw [decide_eq_false_iff_not]; omega
theorem ref_valid (r : Int) : X.tremaref01_Valid.f r = some (vld r) := by
  unfold X.tremaref01_Valid.f vld; split
  · split
    · split
      · congr 1; rw [Bool.eq_iff_iff]; simp only [Bool.not_eq_true', decide_eq_false_iff_not, decide_eq_true_eq]; omega
      · congr 1; symm; simp only [Bool.not_false, decide_eq_true_eq]; omega
    · congr 1; symm; rw [decide_eq_false_iff_not]; omega
  · congr 1; symm; rw [decide_eq_false_iff_not]; omega
theorem j1_pure (k : Nat) (acc : List Int) (r : Int) (l : List Int) (n i : Int) (h0 : 0 ≤ r) (h1 : r ≤ 1114111) (ha : acc.length + 4 < 140737488355328) :
    X.utf_Encode.j1 (k + 1) acc r l n i = X.utf_Encode.l0 k (acc ++ encv r) l n (wrap64 (i + 1)) := by
  simp only [X.utf_Encode.j1, encv]; split
  · rw [if_pos (by omega), show r % 256 = r by omega]
  · split
    · simp only [Option.bind_some, List.length_cons, List.length_nil]; rw [if_pos (by omega), u8_or192 _ (by omega) (by omega), i32_and63 r h0 (by omega), u8_or128 _ (by omega) (by omega), show r / 64 % 256 = r / 64 by omega, show r % 64 % 256 = r % 64 by omega]
    · split
      · simp only [Option.bind_some, List.length_cons, List.length_nil]; rw [if_pos (by omega), u8_or224 _ (by omega) (by omega), i32_and63 r h0 (by omega), i32_and63 (r / 64) (by omega) (by omega), u8_or128 _ (by omega) (by omega), u8_or128 _ (by omega) (by omega), show r / 4096 % 256 = r / 4096 by omega, show r % 64 % 256 = r % 64 by omega, show r / 64 % 64 % 256 = r / 64 % 64 by omega]
      · simp only [Option.bind_some, List.length_cons, List.length_nil]; rw [if_pos (by omega), u8_or240 _ (by omega) (by omega), i32_and63 r h0 (by omega), i32_and63 (r / 64) (by omega) (by omega), i32_and63 (r / 4096) (by omega) (by omega), u8_or128 _ (by omega) (by omega), u8_or128 _ (by omega) (by omega), u8_or128 _ (by omega) (by omega), show r / 262144 % 256 = r / 262144 by omega, show r / 4096 % 64 % 256 = r / 4096 % 64 by omega, show r % 64 % 256 = r % 64 by omega, show r / 64 % 64 % 256 = r / 64 % 64 by omega]
theorem enc_loop (l : List Int) (hl : l.length * 4 ≤ 140737488351232) : ∀ (d i k : Nat) (acc : List Int), l.length - i = d → i ≤ l.length → 2 * d < k → acc.length ≤ 4 * i →
    X.utf_Encode.l0 k acc l (l.length : Int) i = some (acc ++ enc (l.drop i)) := by
  intro d
  induction d with
  | zero =>
    intro i k acc hd hi hk ha; obtain ⟨k, rfl⟩ : ∃ q, k = q + 1 := ⟨k - 1, by omega⟩; simp only [X.utf_Encode.l0]; rw [if_neg (by omega), List.drop_eq_nil_of_le (by omega)]; simp [enc]
  | succ d ih =>
    intro i k acc hd hi hk ha; obtain ⟨k, rfl⟩ : ∃ q, k = q + 2 := ⟨k - 2, by omega⟩; (have hlt : i < l.length := by omega); simp only [X.utf_Encode.l0]; rw [if_pos (by omega), if_pos (by omega), if_pos (by omega), Ux.rd_at l i hlt, valid_pure]; simp only [Option.bind_some]; (have hw : wrap64 ((i : Int) + 1) = ((i + 1 : Nat) : Int) := by unfold wrap64; omega); have hf := fixr_ok l[i]
    have e : (if vld l[i] = true then X.utf_Encode.j1 (k + 1) acc l[i] l (l.length : Int) i else X.utf_Encode.j1 (k + 1) acc 65533 l (l.length : Int) i) = X.utf_Encode.j1 (k + 1) acc (fixr l[i]) l (l.length : Int) i := by
      unfold fixr; split <;> rfl
    rw [e, j1_pure k acc _ l _ _ hf.1 hf.2.1 (by omega), hw]; have hn := encv_len (fixr l[i]); rw [ih (i + 1) k _ (by omega) (by omega) (by omega) (by rw [List.length_append]; omega), List.drop_eq_getElem_cons hlt]; simp [enc, enc1]
theorem enc_pure (l : List Int) (hl : l.length * 4 ≤ 140737488351232) : X.utf_Encode.f (2 * l.length + 1) l = some (enc l) := by
  have := enc_loop l hl l.length 0 (2 * l.length + 1) [] (by omega) (by omega) (by omega) (by simp)
  simpa [X.utf_Encode.f] using this
theorem enc_byte (l : List Int) : Ux.Bytes (enc l) := by
  induction l with
  | nil => simp [enc, Ux.Bytes]
  | cons r l ih =>
    intro x hx; simp only [enc] at hx; rcases List.mem_append.1 hx with hx | hx
    · have hf := fixr_ok r; unfold enc1 encv at hx; split at hx
      · simp at hx; omega
      · split at hx
        · simp at hx; omega
        · split at hx <;> simp at hx <;> omega
    · exact ih x hx
end Go.Proofs.YthffpkdadffinaaDoor.En
namespace Go.Proofs.YthffpkdadffinaaDoor.Urw
set_option linter.unusedVariables false
set_option linter.unusedSimpArgs false
open Go.RowKit YthffpkdadffinaaDoorW.PrintWords Hp X
abbrev KU : Kd Int := Kd.int .u8
def rowF (c : Int) : List Int × Bool :=
  if c ≤ 127 then ([], true) else if 194 ≤ c ∧ c ≤ 223 then ([128, 191], true) else if c = 224 then ([160, 191, 128, 191], true) else if c = 237 then ([128, 159, 128, 191], true)
  else if 225 ≤ c ∧ c ≤ 239 then ([128, 191, 128, 191], true) else if c = 240 then ([144, 191, 128, 191, 128, 191], true) else if 241 ≤ c ∧ c ≤ 243 then ([128, 191, 128, 191, 128, 191], true)
  else if c = 244 then ([128, 143, 128, 191, 128, 191], true) else ([], false)
theorem fin_row {w w1 : World} {c : Int} {xs : List Int} {b : Bool} {v : Value} (e : rowF c = (xs, b)) (h : KU.R 5 w1 w.heap.size (fun _ => True) v xs) (hb : Below w.heap.size w w1) :
    ∃ v', Ending.returned (.tuple #[v, .bool b]) = .returned (.tuple #[v', .bool (rowF c).2]) ∧ KU.R 5 w1 w.heap.size (fun _ => True) v' (rowF c).1 ∧ Below w.heap.size w w1 := ⟨v, by rw [e], by rw [e]; exact h, hb⟩
set_option maxRecDepth 100000 in
set_option maxHeartbeats 8000000 in
theorem RowP (w : World) (c : Int) : Calls Tryd.prog 98 #[.int .u8 c] w fun e w' => ∃ v, e = .returned (.tuple #[v, .bool (rowF c).2]) ∧ KU.R 5 w' w.heap.size (fun _ => True) v (rowF c).1 ∧ Below w.heap.size w w' := by
  go_enter Tryd.func98, Tryd.ntmps98; go_wp2_with (first | ((with_reducible refine gate_dst (N := 14) rfl ?_); refine Kd.R_lit KU _ 5 ?hg (N := 14) ?hd (xs := ([128, 191] : List Int)) (inner := [.int .u8 128, .int .u8 191]) (ok := fun _ => True) (okp := fun _ => True) ?hr (Reps.one (by rfl) (Reps.one (by rfl) (Reps.none _ _))) (fun _ hk => hk) trivial (Below.refl _ _) (Nat.le_refl _) (by simp) ?_; (case hd => rfl); (case hg => rfl); (case hr => first | (go_simp; done) | (go_simp; rfl)); intro v1 w1 hR_ hb_ hg_ hnew_; have R1 := Aside0.mk hR_; have B1 := Aside0.mk hb_; clear hR_ hb_ hg_ hnew_) | ((with_reducible refine gate_dst (N := 18) rfl ?_); refine Kd.R_lit KU _ 5 ?hg (N := 18) ?hd (xs := ([160, 191, 128, 191] : List Int)) (inner := [.int .u8 160, .int .u8 191, .int .u8 128, .int .u8 191]) (ok := fun _ => True) (okp := fun _ => True) ?hr (Reps.one (by rfl) (Reps.one (by rfl) (Reps.one (by rfl) (Reps.one (by rfl) (Reps.none _ _))))) (fun _ hk => hk) trivial (Below.refl _ _) (Nat.le_refl _) (by simp) ?_; (case hd => rfl); (case hg => rfl); (case hr => first | (go_simp; done) | (go_simp; rfl)); intro v1 w1 hR_ hb_ hg_ hnew_; have R1 := Aside0.mk hR_; have B1 := Aside0.mk hb_; clear hR_ hb_ hg_ hnew_) | ((with_reducible refine gate_dst (N := 22) rfl ?_); refine Kd.R_lit KU _ 5 ?hg (N := 22) ?hd (xs := ([128, 159, 128, 191] : List Int)) (inner := [.int .u8 128, .int .u8 159, .int .u8 128, .int .u8 191]) (ok := fun _ => True) (okp := fun _ => True) ?hr (Reps.one (by rfl) (Reps.one (by rfl) (Reps.one (by rfl) (Reps.one (by rfl) (Reps.none _ _))))) (fun _ hk => hk) trivial (Below.refl _ _) (Nat.le_refl _) (by simp) ?_; (case hd => rfl); (case hg => rfl); (case hr => first | (go_simp; done) | (go_simp; rfl)); intro v1 w1 hR_ hb_ hg_ hnew_; have R1 := Aside0.mk hR_; have B1 := Aside0.mk hb_; clear hR_ hb_ hg_ hnew_) | ((with_reducible refine gate_dst (N := 30) rfl ?_); refine Kd.R_lit KU _ 5 ?hg (N := 30) ?hd (xs := ([128, 191, 128, 191] : List Int)) (inner := [.int .u8 128, .int .u8 191, .int .u8 128, .int .u8 191]) (ok := fun _ => True) (okp := fun _ => True) ?hr (Reps.one (by rfl) (Reps.one (by rfl) (Reps.one (by rfl) (Reps.one (by rfl) (Reps.none _ _))))) (fun _ hk => hk) trivial (Below.refl _ _) (Nat.le_refl _) (by simp) ?_; (case hd => rfl); (case hg => rfl); (case hr => first | (go_simp; done) | (go_simp; rfl)); intro v1 w1 hR_ hb_ hg_ hnew_; have R1 := Aside0.mk hR_; have B1 := Aside0.mk hb_; clear hR_ hb_ hg_ hnew_) | ((with_reducible refine gate_dst (N := 34) rfl ?_); refine Kd.R_lit KU _ 5 ?hg (N := 34) ?hd (xs := ([144, 191, 128, 191, 128, 191] : List Int)) (inner := [.int .u8 144, .int .u8 191, .int .u8 128, .int .u8 191, .int .u8 128, .int .u8 191]) (ok := fun _ => True) (okp := fun _ => True) ?hr (Reps.one (by rfl) (Reps.one (by rfl) (Reps.one (by rfl) (Reps.one (by rfl) (Reps.one (by rfl) (Reps.one (by rfl) (Reps.none _ _))))))) (fun _ hk => hk) trivial (Below.refl _ _) (Nat.le_refl _) (by simp) ?_; (case hd => rfl); (case hg => rfl); (case hr => first | (go_simp; done) | (go_simp; rfl)); intro v1 w1 hR_ hb_ hg_ hnew_; have R1 := Aside0.mk hR_; have B1 := Aside0.mk hb_; clear hR_ hb_ hg_ hnew_) | ((with_reducible refine gate_dst (N := 42) rfl ?_); refine Kd.R_lit KU _ 5 ?hg (N := 42) ?hd (xs := ([128, 191, 128, 191, 128, 191] : List Int)) (inner := [.int .u8 128, .int .u8 191, .int .u8 128, .int .u8 191, .int .u8 128, .int .u8 191]) (ok := fun _ => True) (okp := fun _ => True) ?hr (Reps.one (by rfl) (Reps.one (by rfl) (Reps.one (by rfl) (Reps.one (by rfl) (Reps.one (by rfl) (Reps.one (by rfl) (Reps.none _ _))))))) (fun _ hk => hk) trivial (Below.refl _ _) (Nat.le_refl _) (by simp) ?_; (case hd => rfl); (case hg => rfl); (case hr => first | (go_simp; done) | (go_simp; rfl)); intro v1 w1 hR_ hb_ hg_ hnew_; have R1 := Aside0.mk hR_; have B1 := Aside0.mk hb_; clear hR_ hb_ hg_ hnew_) | ((with_reducible refine gate_dst (N := 46) rfl ?_); refine Kd.R_lit KU _ 5 ?hg (N := 46) ?hd (xs := ([128, 143, 128, 191, 128, 191] : List Int)) (inner := [.int .u8 128, .int .u8 143, .int .u8 128, .int .u8 191, .int .u8 128, .int .u8 191]) (ok := fun _ => True) (okp := fun _ => True) ?hr (Reps.one (by rfl) (Reps.one (by rfl) (Reps.one (by rfl) (Reps.one (by rfl) (Reps.one (by rfl) (Reps.one (by rfl) (Reps.none _ _))))))) (fun _ hk => hk) trivial (Below.refl _ _) (Nat.le_refl _) (by simp) ?_; (case hd => rfl); (case hg => rfl); (case hr => first | (go_simp; done) | (go_simp; rfl)); intro v1 w1 hR_ hb_ hg_ hnew_; have R1 := Aside0.mk hR_; have B1 := Aside0.mk hb_; clear hR_ hb_ hg_ hnew_)); (all_goals (try simp only [beq_iff_eq, beq_eq_false_iff_ne, ne_eq] at *)); (all_goals go_ret2); all_goals first | exact fin_row (by unfold rowF; repeat (first | rw [if_pos (by omega)] | rw [if_neg (by omega)])) R1.out B1.out | exact fin_row (by unfold rowF; repeat (first | rw [if_pos (by omega)] | rw [if_neg (by omega)])) (Kd.R_nil _ _ _ _ _) (Below.refl _ _)
end Go.Proofs.YthffpkdadffinaaDoor.Urw
namespace Go.Proofs.YthffpkdadffinaaDoor.X
set_option linter.unusedVariables false
set_option linter.unusedSimpArgs false
open Go.RowKit YthffpkdadffinaaDoorW.PrintWords
def tremaref01_row.f (_ : Nat) (a0 : Int) : Option (List Int × Bool) := some (Urw.rowF a0)
theorem tremaref01_row.mono : ∀ a0 k, LeO (tremaref01_row.f k a0) (tremaref01_row.f (k + 1) a0) := fun _ _ _ h => h
theorem tremaref01_row.calls (k : Nat) (a0 : Int) (r1 : List Int) (r2 : Bool) (w : World) (h : tremaref01_row.f k a0 = some (r1, r2)) :
  Calls Tryd.prog 98 #[.int .u8 a0] w fun e w' => ∃ v0_ : Value, e = .returned (.tuple #[v0_, .bool r2]) ∧ Kd.R (Kd.int .u8) 5 w' w.heap.size (fun _ => True) v0_ r1 ∧ Below w.heap.size w w' := by
  have h2 := Urw.RowP w a0; rw [Option.some.inj h] at h2; exact h2
end Go.Proofs.YthffpkdadffinaaDoor.X
namespace Go.Proofs.YthffpkdadffinaaDoor.Fm
set_option linter.unusedVariables false
set_option linter.unusedSimpArgs false
open Go.RowKit YthffpkdadffinaaDoorW.PrintWords Hp
structure Th where
  P : (Nat → Prop) → World → Prop
  loc : ∀ {ok w w'}, P ok w → (∀ k, ok k → k < w.heap.size → w'.heap[k]? = w.heap[k]?) → P ok w'
  bnd : ∀ {ok w}, P ok w → P (fun k => ok k ∧ k < w.heap.size) w
def rowT {α : Type} (d : Kd α) (e : Nat) (base : Nat) (v : Value) (xs : List α) : Th :=
  ⟨fun ok w => d.R e w base ok v xs, fun h hm => Kd.R_step h hm, fun h => Kd.R_mono (Kd.R_bound h) (fun _ hk => ⟨hk.1, hk.2.2.1⟩)⟩
def Sep (w0 : World) (L : List Th) (w : World) : Prop :=
  ∃ ok : Nat → Nat → Prop, (∀ (i : Nat) (T : Th), L[i]? = some T → T.P (ok i) w) ∧ (∀ i j b, i ≠ j → ok i b → ¬ ok j b) ∧ (∀ i b, ok i b → w0.heap.size ≤ b ∧ b < w.heap.size) ∧ Below w0.heap.size w0 w
section
variable {w0 w w' : World} {L : List Th} {T T' T2 : Th}
theorem Sep.below (h : Sep w0 L w) : Below w0.heap.size w0 w := by obtain ⟨_, _, _, _, h⟩ := h; exact h
theorem Sep.nil (w0 : World) : Sep w0 [] w0 := ⟨fun _ _ => False, by simp, by simp, by simp, Below.refl _ _⟩
theorem Sep.start (h : Below w0.heap.size w0 w) : Sep w0 [] w := ⟨fun _ _ => False, by simp, by simp, by simp, h⟩
theorem Sep.later (h : Sep w0 L w) (hb : Below w.heap.size w w') : Sep w0 L w' := by
  obtain ⟨ok, h1, h2, h3, h4⟩ := h; exact ⟨ok, fun i T hT => T.loc (h1 i T hT) (fun k _ hlt => hb.block k hlt), h2, fun i b hb' => ⟨(h3 i b hb').1, Nat.lt_of_lt_of_le (h3 i b hb').2 hb.size⟩, below_then h4 h4.size hb⟩
theorem Sep.one (h : Sep w0 L w) (i : Nat) (T : Th) (hi : L[i]? = some T) : ∃ ok : Nat → Prop, T.P ok w := by
  obtain ⟨ok, h1, _⟩ := h; exact ⟨ok i, h1 i T hi⟩
theorem Sep.op2 (h : Sep w0 L w) (i : Nat) (T : Th) (hi : L[i]? = some T) :
    ∃ ok : Nat → Prop, T.P ok w ∧ (∀ b, ok b → w0.heap.size ≤ b) ∧ ∀ (w' : World) (T' T2 : Th) (ok' ok2 : Nat → Prop), T'.P ok' w' → T2.P ok2 w' → (∀ b, ok' b → ok b ∨ w.heap.size ≤ b) → (∀ b, ok2 b → w.heap.size ≤ b) → (∀ b, ok' b → ¬ ok2 b) → Chg ok w w' →
      Sep w0 (L.set i T' ++ [T2]) w' := by
  obtain ⟨ok, h1, h2, h3, h4⟩ := h; refine ⟨ok i, h1 i T hi, fun b hb => (h3 i b hb).1, fun w' T' T2 ok' ok2 p1 p2 hs hs2 hd hc => ⟨fun j b => if j = i then ok' b ∧ b < w'.heap.size else if j = L.length then ok2 b ∧ b < w'.heap.size else ok j b, ?_, ?_, ?_, ?_⟩⟩
  · intro j U hj; have hil : i < L.length := (List.getElem?_eq_some_iff.1 hi).1; rw [List.getElem?_append, List.length_set] at hj; split at hj
    · rename_i hjl; by_cases e : j = i
      · subst e; rw [List.getElem?_set_self hil] at hj; injection hj with hj; subst hj; simp only [if_true]; exact T'.bnd p1
      · rw [List.getElem?_set_ne (Ne.symm e)] at hj; simp only [if_neg e, if_neg (show ¬ j = L.length by omega)]; exact U.loc (h1 j U hj) (fun b hb hlt => hc.keep b hlt (fun hb2 => h2 j i b e hb hb2))
    · rename_i hjl; rcases Nat.lt_or_ge (j - L.length) 1 with h5 | h5
      · (have e : j = L.length := by omega); subst e; simp at hj; subst hj; simp only [if_neg (show ¬ L.length = i by omega), if_true]; exact T2.bnd p2
      · rw [List.getElem?_eq_none (by simpa using h5)] at hj; cases hj
  · intro j l b hjl hj hl; (have old : ∀ m c, ok m c → c < w.heap.size := fun m c hm => (h3 m c hm).2); split at hj
    · split at hl
      · omega
      · split at hl
        · exact hd b hj.1 hl.1
        · rcases hs b hj.1 with h | h
          · rename_i ej el _; exact h2 i l b (Ne.symm el) h hl
          · have := old l b hl; omega
    · rename_i ej; split at hj
      · split at hl
        · exact hd b hl.1 hj.1
        · rename_i el; split at hl
          · omega
          · have := hs2 b hj.1; have := old l b hl; omega
      · split at hl
        · rcases hs b hl.1 with h | h
          · exact h2 j i b ej hj h
          · have := old j b hj; omega
        · split at hl
          · have := hs2 b hl.1; have := old j b hj; omega
          · exact h2 j l b hjl hj hl
  · intro j b hj; split at hj
    · refine ⟨?_, hj.2⟩; rcases hs b hj.1 with h | h
      · exact (h3 i b h).1
      · have := h4.size; omega
    · split at hj
      · have := h4.size; have := hs2 b hj.1; exact ⟨by omega, hj.2⟩
      · exact ⟨(h3 j b hj).1, Nat.lt_of_lt_of_le (h3 j b hj).2 hc.size⟩
  · exact hc.below_of h4 (fun b hb => (h3 i b hb).1)
theorem Sep.init (h : Sep w0 (L ++ [T]) w) : Sep w0 L w := by
  obtain ⟨ok, h1, h2, h3, h4⟩ := h; exact ⟨ok, fun i U hU => h1 i U (by rw [List.getElem?_append_left (List.getElem?_eq_some_iff.1 hU).1]; exact hU), h2, h3, h4⟩
def noT : Th := ⟨fun _ _ => True, fun _ _ => trivial, fun _ => trivial⟩
theorem Sep.op (h : Sep w0 L w) (i : Nat) (T : Th) (hi : L[i]? = some T) :
    ∃ ok : Nat → Prop, T.P ok w ∧ (∀ b, ok b → w0.heap.size ≤ b) ∧ ∀ (w' : World) (T' : Th) (ok' : Nat → Prop), T'.P ok' w' → (∀ b, ok' b → ok b ∨ w.heap.size ≤ b) → Chg ok w w' → Sep w0 (L.set i T') w' := by
  obtain ⟨ok, h1, h2, h3⟩ := h.op2 i T hi; exact ⟨ok, h1, h2, fun w' T' ok' p1 hs hc => (h3 w' T' noT ok' (fun _ => False) p1 trivial hs (fun _ hb => hb.elim) (fun _ _ hb => hb) hc).init⟩
theorem Sep.new (h : Sep w0 L w) (T : Th) {ok : Nat → Prop} (hs : T.P ok w') (hn : ∀ b, ok b → w.heap.size ≤ b) (hb : Below w.heap.size w w') : Sep w0 (L ++ [T]) w' := by
  have hl := h.later hb; obtain ⟨oks, h1, h2, h3, h4⟩ := h; obtain ⟨_, _, _, _, h5⟩ := hl; refine ⟨fun j b => if j = L.length then ok b ∧ b < w'.heap.size else oks j b, ?_, ?_, ?_, h5⟩
  · intro j U hj; rw [List.getElem?_append] at hj; split at hj
    · simp only [if_neg (show ¬ j = L.length by omega)]; exact U.loc (h1 j U hj) (fun b _ hlt => hb.block b hlt)
    · rcases Nat.lt_or_ge (j - L.length) 1 with h6 | h6
      · (have e : j = L.length := by omega); subst e; simp at hj; subst hj; simp only [if_true]; exact T.bnd hs
      · rw [List.getElem?_eq_none (by simpa using h6)] at hj; cases hj
  · intro j l b hjl hj hl; split at hj
    · split at hl
      · omega
      · have := hn b hj.1; have := (h3 l b hl).2; omega
    · split at hl
      · have := hn b hl.1; have := (h3 j b hj).2; omega
      · exact h2 j l b hjl hj hl
  · intro j b hj; split at hj
    · have := h4.size; have := hn b hj.1; exact ⟨by omega, hj.2⟩
    · exact ⟨(h3 j b hj).1, Nat.lt_of_lt_of_le (h3 j b hj).2 hb.size⟩
theorem Sep.row {α : Type} {d : Kd α} {e base : Nat} {v : Value} {xs : List α} (h : Sep w0 L w) (i : Nat) (hi : L[i]? = some (rowT d e base v xs)) :
    ∃ ok : Nat → Prop, d.R e w base ok v xs ∧ (∀ k, w.heap.size ≤ k → ok k) ∧ ∀ (v1 : Value) (w1 : World) (xs1 : List α), d.R e w1 base ok v1 xs1 → w.grownBy w1 v.ownBlock → Sep w0 (L.set i (rowT d e base v1 xs1)) w1 := by
  obtain ⟨ok, h1, h2, h3⟩ := h.op i _ hi; have h1' : d.R e w base ok v xs := h1
  exact ⟨fun b => ok b ∨ w.heap.size ≤ b, Kd.R_mono h1' (fun _ hk => .inl hk), fun _ hk => .inr hk, fun v1 w1 xs1 hr hg =>
    h3 w1 (rowT d e base v1 xs1) _ hr (fun _ hb => hb) ((Chg.refl ok w).grown hg (fun k hk => .inl (h1'.1 k hk)))⟩
theorem Sep.reads {α : Type} {d : Kd α} {e base : Nat} {v : Value} {xs : List α} (h : Sep w0 L w) (i : Nat) (hi : L[i]? = some (rowT d e base v xs)) : ∃ A c, v = .slice A xs.length c ∧ xs.length ≤ c ∧ d.C w A xs.length xs := by
  obtain ⟨ok, h1⟩ := h.one i _ hi; exact Kd.R_reads (show d.R e w base ok v xs from h1)
theorem Sep.empty {α : Type} (d : Kd α) (e base : Nat) (h : Sep w0 L w) : Sep w0 (L ++ [rowT d e base (.slice none 0 0) []]) w :=
  h.new (rowT d e base (.slice none 0 0) []) (ok := fun _ => False) (Kd.R_nil d e w base _) (fun _ h => h.elim) (Below.refl _ _)
end
end Go.Proofs.YthffpkdadffinaaDoor.Fm
namespace Go.Proofs.YthffpkdadffinaaDoor.Fm
set_option linter.unusedVariables false
set_option linter.unusedSimpArgs false
open Go.RowKit YthffpkdadffinaaDoorW.PrintWords Hp
theorem nodup_inj : ∀ {js : List Nat} {k l : Nat}, js.Nodup → (hk : k < js.length) → (hl : l < js.length) → js[k] = js[l] → k = l
  | j :: js, 0, 0, _, _, _, _ => rfl
  | j :: js, 0, l + 1, h, _, hl, e => by
    (have e : j = js[l]'(by simpa using hl) := by simpa using e); exact absurd (show j ∈ js by rw [e]; exact List.getElem_mem _) (List.nodup_cons.1 h).1
  | j :: js, k + 1, 0, h, hk, _, e => by
    (have e : js[k]'(by simpa using hk) = j := by simpa using e); exact absurd (show j ∈ js by rw [← e]; exact List.getElem_mem _) (List.nodup_cons.1 h).1
  | j :: js, k + 1, l + 1, h, hk, hl, e => congrArg (· + 1) (nodup_inj (List.nodup_cons.1 h).2 (by simpa using hk) (by simpa using hl) (by simpa using e))
section
variable {w0 w w' : World} {L L' M : List Th}
theorem Sep.pick (h : Sep w0 L w) (js : List Nat) (hnd : js.Nodup) (hL : ∀ (k : Nat) (T : Th), L'[k]? = some T → ∃ i, js[k]? = some i ∧ L[i]? = some T) : Sep w0 L' w := by
  obtain ⟨ok, h1, h2, h3, h4⟩ := h; refine ⟨fun k b => ∃ i, js[k]? = some i ∧ ok i b, fun k T hT => ?_, fun k l b hkl hk hl => ?_, fun k b hk => ?_, h4⟩
  · obtain ⟨i, hi, hTi⟩ := hL k T hT
    have e : (fun b => ∃ i, js[k]? = some i ∧ ok i b) = ok i := by
      funext b
      exact propext ⟨fun ⟨i', hi', hb⟩ => by rw [hi] at hi'; cases hi'; exact hb, fun hb => ⟨i, hi, hb⟩⟩
    (show T.P (fun b => ∃ i, js[k]? = some i ∧ ok i b) w); rw [e]; exact h1 i T hTi
  · obtain ⟨i, hi, hbi⟩ := hk; obtain ⟨j, hj, hbj⟩ := hl; refine h2 i j b (fun e => hkl ?_) hbi hbj; subst e; obtain ⟨hk1, hk2⟩ := List.getElem?_eq_some_iff.1 hi; obtain ⟨hl1, hl2⟩ := List.getElem?_eq_some_iff.1 hj; exact nodup_inj hnd hk1 hl1 (hk2.trans hl2.symm)
  · obtain ⟨i, -, hb⟩ := hk; exact h3 i b hb
theorem Sep.pickL (h : Sep w0 L w) (js : List Nat) (hnd : js.Nodup) (hL : L'.map some = js.map (fun i => L[i]?)) : Sep w0 L' w :=
  h.pick js hnd fun k T hT => by
    have h1 := congrArg (fun l => l[k]?) hL; simp only [List.getElem?_map, hT, Option.map_some] at h1
    cases hj : js[k]? with
    | none => rw [hj] at h1; cases h1
    | some i => rw [hj] at h1; exact ⟨i, rfl, (Option.some.inj h1).symm⟩
theorem Sep.head (h : Sep w0 L w) (n : Nat) : Sep w0 (L.take n) w := by
  obtain ⟨ok, h1, h2, h3, h4⟩ := h; refine ⟨ok, fun k T hT => h1 k T ?_, h2, h3, h4⟩; rw [List.getElem?_take] at hT; split at hT
  · exact hT
  · cases hT
end
theorem perm_lift {α β : Type} (f : α → β) : ∀ {m l' : List β}, m.Perm l' → ∀ l : List α, l.map f = m → ∃ z : List α, z.Perm l ∧ z.map f = l' := by
  intro m l' h
  induction h with
  | nil => intro l hl; exact ⟨l, .refl _, hl⟩
  | cons x _ ih =>
    intro l hl
    cases l with
    | nil => simp at hl
    | cons y t =>
      obtain ⟨h1, h2⟩ := List.cons.inj hl; obtain ⟨z, hz, e⟩ := ih t h2; exact ⟨y :: z, hz.cons y, by rw [List.map_cons, e, h1]⟩
  | swap x y t =>
    intro l hl
    match l, hl with
    | a :: b :: r, hl =>
      obtain ⟨h1, h2⟩ := List.cons.inj hl; obtain ⟨h3, h4⟩ := List.cons.inj h2; exact ⟨b :: a :: r, .swap _ _ _, by rw [List.map_cons, List.map_cons, h1, h3, h4]⟩
  | trans _ _ ih1 ih2 =>
    intro l hl; obtain ⟨z1, p1, e1⟩ := ih1 l hl; obtain ⟨z2, p2, e2⟩ := ih2 z1 e1; exact ⟨z2, p2.trans p1, e2⟩
theorem Sep.init_ {w0 w : World} {L : List Th} (h : Sep w0 L w) (L' : List Th) (T : Th) (e : L = L' ++ [T]) : Sep w0 L' w := (e ▸ h).init
theorem Sep.perm {w0 w : World} {L L' : List Th} (h : Sep w0 L w) (hp : L.Perm L') : Sep w0 L' w := by
  obtain ⟨z, hz, e⟩ := perm_lift Prod.fst hp L.zipIdx (by simp); have hnd : (z.map Prod.snd).Nodup := (hz.map Prod.snd).nodup_iff.2 (by rw [List.zipIdx_map_snd]; exact List.nodup_range'); (refine h.pick (z.map Prod.snd) hnd fun k T hT => ?_); rw [← e, List.getElem?_map] at hT
  cases hk : z[k]? with
  | none => rw [hk] at hT; cases hT
  | some q =>
    rw [hk] at hT; obtain rfl : q.1 = T := Option.some.inj hT; have hm : q ∈ L.zipIdx := hz.mem_iff.1 (List.mem_of_getElem? hk); refine ⟨q.2, by rw [List.getElem?_map, hk]; rfl, ?_⟩; obtain ⟨T, i⟩ := q; have := List.mem_zipIdx_iff_getElem?.1 hm
    simpa using this
theorem at3 {α : Type} (a b c : α) (M r : List α) (x : α) : (a :: b :: c :: (M ++ x :: r))[M.length + 3]? = some x := by simp
theorem set3 {α : Type} (a b c : α) (M r : List α) (x y : α) : (a :: b :: c :: (M ++ x :: r)).set (M.length + 3) y = a :: b :: c :: (M ++ y :: r) := by simp
theorem at4 {α : Type} (a b c : α) (M r : List α) (x y : α) : (a :: b :: c :: (M ++ x :: y :: r))[M.length + 4]? = some y := by
  have := at3 a b c (M ++ [x]) r y; simp at this ⊢
theorem at5 {α : Type} (a b c : α) (M r : List α) (x y z : α) : (a :: b :: c :: (M ++ x :: y :: z :: r))[M.length + 5]? = some z := by simp
theorem take5 {α : Type} (a b c : α) (M : List α) (x y z : α) : (a :: b :: c :: (M ++ x :: y :: [z])).take (M.length + 5) = a :: b :: c :: (M ++ x :: [y]) := by
  (show a :: b :: c :: List.take (M.length + 2) (M ++ x :: y :: [z]) = _); rw [show M ++ x :: y :: [z] = (M ++ x :: [y]) ++ [z] by simp, List.take_left' (by simp)]
theorem take4 {α : Type} (a b c : α) (M : List α) (x y : α) : (a :: b :: c :: (M ++ x :: [y])).take (M.length + 4) = a :: b :: c :: (M ++ [x]) := by
  (show a :: b :: c :: List.take (M.length + 1) (M ++ x :: [y]) = _); rw [show M ++ x :: [y] = (M ++ [x]) ++ [y] by simp, List.take_left' (by simp)]
def blkT (g : Nat) (cells : Array Value) (t : TypeId) : Th :=
  ⟨fun ok w => ok g ∧ w.heap[g]? = some (.cells cells t (0, 0)), fun h hm => ⟨h.1, (hm g h.1 (blk_lt h.2)).trans h.2⟩, fun h => ⟨⟨h.1, blk_lt h.2⟩, h.2⟩⟩
section
variable {w0 w w' : World} {L : List Th} {g : Nat} {cells cells' : Array Value} {t : TypeId}
theorem Sep.blk (h : Sep w0 L w) (i : Nat) (hi : L[i]? = some (blkT g cells t)) : w.heap[g]? = some (.cells cells t (0, 0)) ∧ w0.heap.size ≤ g := by
  obtain ⟨ok, h1, h2, _⟩ := h.op i _ hi; exact ⟨h1.2, h2 g h1.1⟩
theorem Sep.blk_chg (h : Sep w0 L w) (i : Nat) (hi : L[i]? = some (blkT g cells t)) (hc : w'.heap[g]? = some (.cells cells' t (0, 0))) (hch : Chg (fun b => b = g) w w') :
    Sep w0 (L.set i (blkT g cells' t)) w' := by
  obtain ⟨ok, h1, h2, h3⟩ := h.op i _ hi; exact h3 w' (blkT g cells' t) ok ⟨h1.1, hc⟩ (fun b hb => .inl hb) (hch.mono (fun k _ hk => by rw [hk]; exact h1.1))
theorem Sep.blk_set (h : Sep w0 L w) (i : Nat) (hi : L[i]? = some (blkT g cells t)) (j : Nat) (u : Value) (hc : cells' = cells.setIfInBounds j u) : Sep w0 (L.set i (blkT g cells' t)) (w.setCell ⟨g, j, none⟩ u) := by
  subst hc; exact h.blk_chg i hi (Go.Proofs.YthffpkdadffinaaDoorW.PrintWords.blk_set (h.blk i hi).1 j u) ((Chg.refl (fun b => b = g) w).setCell (p := ⟨g, j, none⟩) (.inl rfl) u)
theorem Sep.blk_new (h : Sep w0 L w) (cells : Array Value) (t : TypeId) : Sep w0 (L ++ [blkT w.heap.size cells t]) (w.alloc (.cells cells t)) :=
  h.new (blkT w.heap.size cells t) (ok := fun b => b = w.heap.size) ⟨rfl, heap_alloc_new w _⟩ (fun b hb => by rw [hb]; exact Nat.le_refl _) (below_alloc (Below.refl _ _) _)
theorem Sep.rows {α : Type} {d : Kd α} {e base : Nat} {A : Option Addr} {m c : Nat} {xs : List α} (h : Sep w0 L w) (i : Nat) (hi : L[i]? = some (rowT d e base (.slice A m c) xs)) : m = xs.length ∧ m ≤ c ∧ d.C w A m xs := by
  obtain ⟨ok, h1⟩ := h.one i _ hi; have := Kd.R_reads' (show d.R e w base ok (.slice A m c) xs from h1); exact ⟨this.1, this.2.1, this.1 ▸ this.2.2⟩
theorem Sep.let_go {α : Type} (d : Kd α) (e base : Nat) {T : Th} (h : Sep w0 L w) (i : Nat) (hi : L[i]? = some T) : Sep w0 (L.set i (rowT d e base (.slice none 0 0) [])) w := by
  obtain ⟨ok, h1, h2, h3⟩ := h.op i T hi; exact h3 w (rowT d e base (.slice none 0 0) []) (fun _ => False) (Kd.R_nil d e w base _) (fun _ hb => hb.elim) (Chg.refl ok w)
theorem Sep.newR {α : Type} {d : Kd α} {e : Nat} (h : Sep w0 L w) {v : Value} {xs : List α} (p1 : d.R e w' w.heap.size (fun _ => True) v xs) (p2 : Below w.heap.size w w') : Sep w0 (L ++ [rowT d e w0.heap.size v xs]) w' :=
  h.new (rowT d e w0.heap.size v xs) (ok := fun b => w.heap.size ≤ b) (Kd.R_lower (Kd.R_mono (Kd.R_bound p1) (fun k hk => hk.2.1)) h.below.size) (fun _ hb => hb) p2
end
end Go.Proofs.YthffpkdadffinaaDoor.Fm
namespace Go.Proofs.YthffpkdadffinaaDoor.Urp
set_option linter.unusedVariables false
set_option linter.unusedSimpArgs false
open Go.RowKit YthffpkdadffinaaDoorW.PrintWords Hp Fm X Urw
open Go.Proofs.YthffpkdadffinaaDoor.En (enc enc1 encv fixr vld fixr_ok ref_valid)
set_option maxRecDepth 100000 in
set_option maxHeartbeats 8000000 in
theorem PutV (w0 w : World) (v : Value) (acc : List Int) (r : Int) (hv : vld r = true) (HS : Aside0 (Sep w0 [rowT KU 5 w0.heap.size v acc] w)) (hl : acc.length ≤ 140737488351232) :
    Calls Tryd.prog 95 #[v, .int .i32 r] w fun e w' => ∃ v', e = .returned v' ∧ Sep w0 [rowT KU 5 w0.heap.size v' (acc ++ encv r)] w' := by
  have hv2 := hv; simp only [vld, decide_eq_true_eq] at hv2; have HLA := Aside0.mk hl; have FV := Aside0.mk (fun W : World => tremaref01_Valid.calls r true W (by rw [ref_valid, hv])); clear hv hl; by_cases h1 : r < 128
  · have d1 : decide (r < 128) = true := decide_eq_true h1; have HE := Aside0.mk (show encv r = [r] by unfold encv; rw [if_pos h1]); (have hw : IntKind.u8.wrap r = r := by simp [IntKind.wrap, IntKind.bits, IntKind.signed]; omega); clear hv2 h1; go_enter Tryd.func95, Tryd.ntmps95; go_wp2_with (first | (go_at_call 112; go_must (refine (FV.out _).mono ?_; rintro E w4 ⟨rfl, p1⟩; have n0_ := Aside0.mk (HS.out.later p1.below); clear HS p1; have HS := n0_; clear n0_)) | ((with_reducible refine gate_dst (N := 13) rfl ?_); refine Kd.R_lit KU _ 5 ?hg (N := 13) ?hd (xs := ([r] : List Int)) (inner := [.int .u8 (r)]) (ok := fun _ => True) (okp := fun _ => True) ?hr (Reps.one (by rfl) (Reps.none _ _)) (fun _ hk => hk) trivial (Below.refl _ _) (Nat.le_refl _) (by simp) ?_; (case hd => rfl); (case hg => rfl); (case hr => first | (go_simp; done) | (go_simp; rfl)); intro v2 w2 hR_ hb_ hg_ hnew_; obtain ⟨A2, c2, rfl, hc2, hC2⟩ := Kd.R_reads hR_; have C2 := Aside0.mk hC2; have S2 := Aside0.mk (HS.out.later hb_); clear hR_ hb_ hg_ hnew_ hC2) | ((with_reducible refine gate_builtin (b := .append) (xs := #[.tmp 10, .tmp 13]) rfl ?_); at_builtin; go_must (obtain ⟨ok_, q1, q2, q3⟩ := Sep.row (d := KU) (e := 5) (base := w0.heap.size) (v := v) (xs := acc) S2.out 0 rfl; (refine Kd.R_append_rows KU (Rr := KU.K w2) (w0 := w2) w0.heap.size rfl (.tmp 10) (.tmp 13) 23 5 (.int .u8 0) 1 rfl Tryd.underlying23 info5 rfl (by decide) (by decide) v acc ([r] : List Int) A2 ([r] : List Int).length c2 ok_ (fun _ => False) rfl rfl q1 C2.out (fun _ _ h => h) (fun _ h => h.elim) q2 (Below.refl _ _) S2.out.below.size (by have := HLA.out; simp; omega) ?_); intro v1 w1 hR_ hb_ hg_ hat_; have S3 := Aside0.mk (q3 v1 w1 _ hR_ hg_); clear hR_ hb_ hg_ hat_ q1 q2 q3))); go_ret; exact ⟨_, rfl, by rw [HE.out]; exact S3.out⟩
  · by_cases h2 : r < 2048
    · have d1 : decide (r < 128) = false := decide_eq_false h1; have d2 : decide (r < 2048) = true := decide_eq_true h2; obtain ⟨a, ha⟩ : ∃ a, a = 192 + r / 64 := ⟨_, rfl⟩; obtain ⟨b, hb⟩ : ∃ b, b = 128 + r % 64 := ⟨_, rfl⟩; have HE := Aside0.mk (show encv r = [a, b] by unfold encv; rw [if_neg h1, if_pos h2, ha, hb]); have t1 : Int.tdiv r 64 = r / 64 := Int.tdiv_eq_ediv_of_nonneg (by omega); have m1 : Int.tmod r 64 = r % 64 := Int.tmod_eq_emod_of_nonneg (by omega); (have k1 : IntKind.i32.wrap (r / 64) = r / 64 := by rw [IntKind.wrap_i32]; omega); (have k2 : IntKind.i32.wrap (192 + r / 64) = 192 + r / 64 := by clear k1; rw [IntKind.wrap_i32]; omega); (have k3 : IntKind.u8.wrap (192 + r / 64) = a := by clear k1 k2; rw [ha]; simp [IntKind.wrap, IntKind.bits, IntKind.signed]; omega); (have k4 : IntKind.i32.wrap (128 + r % 64) = 128 + r % 64 := by clear k1 k2 k3; rw [IntKind.wrap_i32]; omega); (have k5 : IntKind.u8.wrap (128 + r % 64) = b := by clear k1 k2 k3 k4; rw [hb]; simp [IntKind.wrap, IntKind.bits, IntKind.signed]; omega); clear hv2 h1 h2 ha hb; go_enter Tryd.func95, Tryd.ntmps95; go_wp2_with (first | (go_at_call 112; go_must (refine (FV.out _).mono ?_; rintro E w4 ⟨rfl, p1⟩; have n0_ := Aside0.mk (HS.out.later p1.below); clear HS p1; have HS := n0_; clear n0_)) | ((with_reducible refine gate_dst (N := 26) rfl ?_); refine Kd.R_lit KU _ 5 ?hg (N := 26) ?hd (xs := ([a, b] : List Int)) (inner := [.int .u8 (a), .int .u8 (b)]) (ok := fun _ => True) (okp := fun _ => True) ?hr (Reps.one (by rfl) (Reps.one (by rfl) (Reps.none _ _))) (fun _ hk => hk) trivial (Below.refl _ _) (Nat.le_refl _) (by simp) ?_; (case hd => rfl); (case hg => rfl); (case hr => first | (go_simp; done) | (go_simp; rfl)); intro v2 w2 hR_ hb_ hg_ hnew_; obtain ⟨A2, c2, rfl, hc2, hC2⟩ := Kd.R_reads hR_; have C2 := Aside0.mk hC2; have S2 := Aside0.mk (HS.out.later hb_); clear hR_ hb_ hg_ hnew_ hC2) | ((with_reducible refine gate_builtin (b := .append) (xs := #[.tmp 17, .tmp 26]) rfl ?_); at_builtin; go_must (obtain ⟨ok_, q1, q2, q3⟩ := Sep.row (d := KU) (e := 5) (base := w0.heap.size) (v := v) (xs := acc) S2.out 0 rfl; (refine Kd.R_append_rows KU (Rr := KU.K w2) (w0 := w2) w0.heap.size rfl (.tmp 17) (.tmp 26) 23 5 (.int .u8 0) 1 rfl Tryd.underlying23 info5 rfl (by decide) (by decide) v acc ([a, b] : List Int) A2 ([a, b] : List Int).length c2 ok_ (fun _ => False) rfl rfl q1 C2.out (fun _ _ h => h) (fun _ h => h.elim) q2 (Below.refl _ _) S2.out.below.size (by have := HLA.out; simp; omega) ?_); intro v1 w1 hR_ hb_ hg_ hat_; have S3 := Aside0.mk (q3 v1 w1 _ hR_ hg_); clear hR_ hb_ hg_ hat_ q1 q2 q3))); go_ret; exact ⟨_, rfl, by rw [HE.out]; exact S3.out⟩
    · by_cases h3 : r < 65536
      · have d1 : decide (r < 128) = false := decide_eq_false h1; have d2 : decide (r < 2048) = false := decide_eq_false h2; have d3 : decide (r < 65536) = true := decide_eq_true h3; obtain ⟨a, ha⟩ : ∃ z, z = 224 + r / 4096 := ⟨_, rfl⟩; obtain ⟨b0, hb0⟩ : ∃ z, z = 128 + r / 64 % 64 := ⟨_, rfl⟩; obtain ⟨b1, hb1⟩ : ∃ z, z = 128 + r % 64 := ⟨_, rfl⟩; have HE := Aside0.mk (show encv r = [a, b0, b1] by unfold encv; rw [if_neg h1, if_neg h2, if_pos h3, ha, hb0, hb1]); have t64 : Int.tdiv r 64 = r / 64 := Int.tdiv_eq_ediv_of_nonneg (by omega); have t4096 : Int.tdiv r 4096 = r / 4096 := Int.tdiv_eq_ediv_of_nonneg (by omega); have m64 : Int.tmod (r / 64) 64 = r / 64 % 64 := Int.tmod_eq_emod_of_nonneg (by omega); have m1 : Int.tmod r 64 = r % 64 := Int.tmod_eq_emod_of_nonneg (by omega); (have k0 : IntKind.i32.wrap (r / 64) = r / 64 := by rw [IntKind.wrap_i32]; omega); (have k1 : IntKind.i32.wrap (r / 4096) = r / 4096 := by clear k0; rw [IntKind.wrap_i32]; omega); (have k2 : IntKind.i32.wrap (224 + r / 4096) = 224 + r / 4096 := by clear k0 k1; rw [IntKind.wrap_i32]; omega); (have k3 : IntKind.u8.wrap (224 + r / 4096) = a := by clear k0 k1 k2; rw [ha]; simp [IntKind.wrap, IntKind.bits, IntKind.signed]; omega); (have k4 : IntKind.i32.wrap (128 + r / 64 % 64) = 128 + r / 64 % 64 := by clear k0 k1 k2 k3; rw [IntKind.wrap_i32]; omega); (have k5 : IntKind.u8.wrap (128 + r / 64 % 64) = b0 := by clear k0 k1 k2 k3 k4; rw [hb0]; simp [IntKind.wrap, IntKind.bits, IntKind.signed]; omega); (have k6 : IntKind.i32.wrap (128 + r % 64) = 128 + r % 64 := by clear k0 k1 k2 k3 k4 k5; rw [IntKind.wrap_i32]; omega); (have k7 : IntKind.u8.wrap (128 + r % 64) = b1 := by clear k0 k1 k2 k3 k4 k5 k6; rw [hb1]; simp [IntKind.wrap, IntKind.bits, IntKind.signed]; omega); clear hv2 ha hb0 hb1 h1 h2 h3; go_enter Tryd.func95, Tryd.ntmps95; go_wp2_with (first | (go_at_call 112; go_must (refine (FV.out _).mono ?_; rintro E w4 ⟨rfl, p1⟩; have n0_ := Aside0.mk (HS.out.later p1.below); clear HS p1; have HS := n0_; clear n0_)) | ((with_reducible refine gate_dst (N := 44) rfl ?_); refine Kd.R_lit KU _ 5 ?hg (N := 44) ?hd (xs := ([a, b0, b1] : List Int)) (inner := [.int .u8 (a), .int .u8 (b0), .int .u8 (b1)]) (ok := fun _ => True) (okp := fun _ => True) ?hr (Reps.one (by rfl) (Reps.one (by rfl) (Reps.one (by rfl) (Reps.none _ _)))) (fun _ hk => hk) trivial (Below.refl _ _) (Nat.le_refl _) (by simp) ?_; (case hd => rfl); (case hg => rfl); (case hr => first | (go_simp; done) | (go_simp; rfl)); intro v2 w2 hR_ hb_ hg_ hnew_; obtain ⟨A2, c2, rfl, hc2, hC2⟩ := Kd.R_reads hR_; have C2 := Aside0.mk hC2; have S2 := Aside0.mk (HS.out.later hb_); clear hR_ hb_ hg_ hnew_ hC2) | ((with_reducible refine gate_builtin (b := .append) (xs := #[.tmp 30, .tmp 44]) rfl ?_); at_builtin; go_must (obtain ⟨ok_, q1, q2, q3⟩ := Sep.row (d := KU) (e := 5) (base := w0.heap.size) (v := v) (xs := acc) S2.out 0 rfl; (refine Kd.R_append_rows KU (Rr := KU.K w2) (w0 := w2) w0.heap.size rfl (.tmp 30) (.tmp 44) 23 5 (.int .u8 0) 1 rfl Tryd.underlying23 info5 rfl (by decide) (by decide) v acc ([a, b0, b1] : List Int) A2 ([a, b0, b1] : List Int).length c2 ok_ (fun _ => False) rfl rfl q1 C2.out (fun _ _ h => h) (fun _ h => h.elim) q2 (Below.refl _ _) S2.out.below.size (by have := HLA.out; simp; omega) ?_); intro v1 w1 hR_ hb_ hg_ hat_; have S3 := Aside0.mk (q3 v1 w1 _ hR_ hg_); clear hR_ hb_ hg_ hat_ q1 q2 q3))); go_ret; exact ⟨_, rfl, by rw [HE.out]; exact S3.out⟩
      · have d1 : decide (r < 128) = false := decide_eq_false h1; have d2 : decide (r < 2048) = false := decide_eq_false h2; have d3 : decide (r < 65536) = false := decide_eq_false h3; obtain ⟨a, ha⟩ : ∃ z, z = 240 + r / 262144 := ⟨_, rfl⟩; obtain ⟨b0, hb0⟩ : ∃ z, z = 128 + r / 4096 % 64 := ⟨_, rfl⟩; obtain ⟨b1, hb1⟩ : ∃ z, z = 128 + r / 64 % 64 := ⟨_, rfl⟩; obtain ⟨b2, hb2⟩ : ∃ z, z = 128 + r % 64 := ⟨_, rfl⟩; have HE := Aside0.mk (show encv r = [a, b0, b1, b2] by unfold encv; rw [if_neg h1, if_neg h2, if_neg h3, ha, hb0, hb1, hb2]); have t64 : Int.tdiv r 64 = r / 64 := Int.tdiv_eq_ediv_of_nonneg (by omega); have t4096 : Int.tdiv r 4096 = r / 4096 := Int.tdiv_eq_ediv_of_nonneg (by omega); have t262144 : Int.tdiv r 262144 = r / 262144 := Int.tdiv_eq_ediv_of_nonneg (by omega); have m4096 : Int.tmod (r / 4096) 64 = r / 4096 % 64 := Int.tmod_eq_emod_of_nonneg (by omega); have m64 : Int.tmod (r / 64) 64 = r / 64 % 64 := Int.tmod_eq_emod_of_nonneg (by omega); have m1 : Int.tmod r 64 = r % 64 := Int.tmod_eq_emod_of_nonneg (by omega); (have k0 : IntKind.i32.wrap (r / 64) = r / 64 := by rw [IntKind.wrap_i32]; omega); (have k1 : IntKind.i32.wrap (r / 4096) = r / 4096 := by clear k0; rw [IntKind.wrap_i32]; omega); (have k2 : IntKind.i32.wrap (r / 262144) = r / 262144 := by clear k0 k1; rw [IntKind.wrap_i32]; omega); (have k3 : IntKind.i32.wrap (240 + r / 262144) = 240 + r / 262144 := by clear k0 k1 k2; rw [IntKind.wrap_i32]; omega); (have k4 : IntKind.u8.wrap (240 + r / 262144) = a := by clear k0 k1 k2 k3; rw [ha]; simp [IntKind.wrap, IntKind.bits, IntKind.signed]; omega); (have k5 : IntKind.i32.wrap (128 + r / 4096 % 64) = 128 + r / 4096 % 64 := by clear k0 k1 k2 k3 k4; rw [IntKind.wrap_i32]; omega); (have k6 : IntKind.u8.wrap (128 + r / 4096 % 64) = b0 := by clear k0 k1 k2 k3 k4 k5; rw [hb0]; simp [IntKind.wrap, IntKind.bits, IntKind.signed]; omega); (have k7 : IntKind.i32.wrap (128 + r / 64 % 64) = 128 + r / 64 % 64 := by clear k0 k1 k2 k3 k4 k5 k6; rw [IntKind.wrap_i32]; omega); (have k8 : IntKind.u8.wrap (128 + r / 64 % 64) = b1 := by clear k0 k1 k2 k3 k4 k5 k6 k7; rw [hb1]; simp [IntKind.wrap, IntKind.bits, IntKind.signed]; omega); (have k9 : IntKind.i32.wrap (128 + r % 64) = 128 + r % 64 := by clear k0 k1 k2 k3 k4 k5 k6 k7 k8; rw [IntKind.wrap_i32]; omega); (have k10 : IntKind.u8.wrap (128 + r % 64) = b2 := by clear k0 k1 k2 k3 k4 k5 k6 k7 k8 k9; rw [hb2]; simp [IntKind.wrap, IntKind.bits, IntKind.signed]; omega); clear hv2 ha hb0 hb1 hb2 h1 h2 h3; go_enter Tryd.func95, Tryd.ntmps95; go_wp2_with (first | (go_at_call 112; go_must (refine (FV.out _).mono ?_; rintro E w4 ⟨rfl, p1⟩; have n0_ := Aside0.mk (HS.out.later p1.below); clear HS p1; have HS := n0_; clear n0_)) | ((with_reducible refine gate_dst (N := 65) rfl ?_); refine Kd.R_lit KU _ 5 ?hg (N := 65) ?hd (xs := ([a, b0, b1, b2] : List Int)) (inner := [.int .u8 (a), .int .u8 (b0), .int .u8 (b1), .int .u8 (b2)]) (ok := fun _ => True) (okp := fun _ => True) ?hr (Reps.one (by rfl) (Reps.one (by rfl) (Reps.one (by rfl) (Reps.one (by rfl) (Reps.none _ _))))) (fun _ hk => hk) trivial (Below.refl _ _) (Nat.le_refl _) (by simp) ?_; (case hd => rfl); (case hg => rfl); (case hr => first | (go_simp; done) | (go_simp; rfl)); intro v2 w2 hR_ hb_ hg_ hnew_; obtain ⟨A2, c2, rfl, hc2, hC2⟩ := Kd.R_reads hR_; have C2 := Aside0.mk hC2; have S2 := Aside0.mk (HS.out.later hb_); clear hR_ hb_ hg_ hnew_ hC2) | ((with_reducible refine gate_builtin (b := .append) (xs := #[.tmp 46, .tmp 65]) rfl ?_); at_builtin; go_must (obtain ⟨ok_, q1, q2, q3⟩ := Sep.row (d := KU) (e := 5) (base := w0.heap.size) (v := v) (xs := acc) S2.out 0 rfl; (refine Kd.R_append_rows KU (Rr := KU.K w2) (w0 := w2) w0.heap.size rfl (.tmp 46) (.tmp 65) 23 5 (.int .u8 0) 1 rfl Tryd.underlying23 info5 rfl (by decide) (by decide) v acc ([a, b0, b1, b2] : List Int) A2 ([a, b0, b1, b2] : List Int).length c2 ok_ (fun _ => False) rfl rfl q1 C2.out (fun _ _ h => h) (fun _ h => h.elim) q2 (Below.refl _ _) S2.out.below.size (by have := HLA.out; simp; omega) ?_); intro v1 w1 hR_ hb_ hg_ hat_; have S3 := Aside0.mk (q3 v1 w1 _ hR_ hg_); clear hR_ hb_ hg_ hat_ q1 q2 q3))); go_ret; exact ⟨_, rfl, by rw [HE.out]; exact S3.out⟩
set_option maxRecDepth 100000 in
set_option maxHeartbeats 8000000 in
theorem PutI (w0 w : World) (v : Value) (acc : List Int) (r : Int) (hv : vld r = false) (HS : Aside0 (Sep w0 [rowT KU 5 w0.heap.size v acc] w)) (hl : acc.length ≤ 140737488351232) :
    Calls Tryd.prog 95 #[v, .int .i32 r] w fun e w' => ∃ v', e = .returned v' ∧ Sep w0 [rowT KU 5 w0.heap.size v' (acc ++ [239, 191, 189])] w' := by
  have HLA := Aside0.mk hl; have FV := Aside0.mk (fun W : World => tremaref01_Valid.calls r false W (by rw [ref_valid, hv])); clear hv hl; go_enter Tryd.func95, Tryd.ntmps95; go_wp2_with (first | (go_at_call 112; go_must (refine (FV.out _).mono ?_; rintro E w4 ⟨rfl, p1⟩; have n0_ := Aside0.mk (HS.out.later p1.below); clear HS p1; have HS := n0_; clear n0_)) | ((with_reducible refine gate_dst (N := 44) rfl ?_); refine Kd.R_lit KU _ 5 ?hg (N := 44) ?hd (xs := ([239, 191, 189] : List Int)) (inner := [.int .u8 239, .int .u8 191, .int .u8 189]) (ok := fun _ => True) (okp := fun _ => True) ?hr (Reps.one (by rfl) (Reps.one (by rfl) (Reps.one (by rfl) (Reps.none _ _)))) (fun _ hk => hk) trivial (Below.refl _ _) (Nat.le_refl _) (by simp) ?_; (case hd => rfl); (case hg => rfl); (case hr => first | (go_simp; done) | (go_simp; rfl)); intro v2 w2 hR_ hb_ hg_ hnew_; obtain ⟨A2, c2, rfl, hc2, hC2⟩ := Kd.R_reads hR_; have C2 := Aside0.mk hC2; have S2 := Aside0.mk (HS.out.later hb_); clear hR_ hb_ hg_ hnew_ hC2) | ((with_reducible refine gate_builtin (b := .append) (xs := #[.tmp 30, .tmp 44]) rfl ?_); at_builtin; go_must (obtain ⟨ok_, q1, q2, q3⟩ := Sep.row (d := KU) (e := 5) (base := w0.heap.size) (v := v) (xs := acc) S2.out 0 rfl; (refine Kd.R_append_rows KU (Rr := KU.K w2) (w0 := w2) w0.heap.size rfl (.tmp 30) (.tmp 44) 23 5 (.int .u8 0) 1 rfl Tryd.underlying23 info5 rfl (by decide) (by decide) v acc ([239, 191, 189] : List Int) A2 ([239, 191, 189] : List Int).length c2 ok_ (fun _ => False) rfl rfl q1 C2.out (fun _ _ h => h) (fun _ h => h.elim) q2 (Below.refl _ _) S2.out.below.size (by have := HLA.out; simp; omega) ?_); intro v1 w1 hR_ hb_ hg_ hat_; have S3 := Aside0.mk (q3 v1 w1 _ hR_ hg_); clear hR_ hb_ hg_ hat_ q1 q2 q3))); go_ret; exact ⟨_, rfl, S3.out⟩
theorem PutP (w0 w : World) (v : Value) (acc : List Int) (r : Int) (HS : Sep w0 [rowT KU 5 w0.heap.size v acc] w) (hl : acc.length ≤ 140737488351232) :
    Calls Tryd.prog 95 #[v, .int .i32 r] w fun e w' => ∃ v', e = .returned v' ∧ Sep w0 [rowT KU 5 w0.heap.size v' (acc ++ enc1 r)] w' := by
  cases hv : vld r with
  | true =>
    (have e : enc1 r = encv r := by unfold enc1 fixr; rw [if_pos hv]); rw [e]; exact PutV w0 w v acc r hv ⟨HS⟩ hl
  | false =>
    (have e : enc1 r = [239, 191, 189] := by unfold enc1 fixr; rw [if_neg (by rw [hv]; decide)]; decide); rw [e]; exact PutI w0 w v acc r hv ⟨HS⟩ hl
set_option maxRecDepth 100000 in
set_option maxHeartbeats 8000000 in
theorem EncodeP (w : World) (A : Option Addr) (n c : Nat) (l : List Int) (hC : Kd.C (Kd.int .i32) w A n l) (hn : n = l.length) (hc : n ≤ c) (hl : n * 4 ≤ 140737488351232) :
    Calls Tryd.prog 76 #[.slice A n c] w fun e w' => ∃ v, e = .returned v ∧ KU.R 5 w' w.heap.size (fun _ => True) v (enc l) ∧ Below w.heap.size w w' := by
  have HC := Aside0.mk hC; have HN := Aside0.mk hn; clear hC hn; go_enter Tryd.func76, Tryd.ntmps76; go_wp2; go_loopw [3, 4] (fun v3 v4 wr => ∃ i : Nat, i ≤ n ∧ v4 = .int .i64 i ∧ Aside0 (Sep w [rowT KU 5 w.heap.size v3 (enc (l.take i))] wr)) (fun _ v4 _ => n - (intOf v4).toNat)
  case atStart => exact ⟨0, Nat.zero_le _, rfl, ⟨(Sep.nil w).newR (Kd.R_nil _ _ _ _ _) (Below.refl _ _)⟩⟩
  case round =>
    obtain ⟨i, hi, rfl, HS⟩ := hrel; by_cases hlt : i < n
    · have hd : decide ((i : Int) < (n : Int)) = true := decide_eq_true (by omega); have hd' : decide (i < n) = true := decide_eq_true hlt; (have hil : i < l.length := by rw [← HN.out]; exact hlt); obtain ⟨ad, rfl, hz⟩ := (rdint HC.out).2.2 (by omega); have z0 := cell_later HS.out.below (hz i hlt); rw [List.getD_eq_getElem?_getD, List.getElem?_eq_getElem hil, Option.getD_some] at z0
      have HT := Aside0.mk (show enc (l.take (i + 1)) = enc (l.take i) ++ enc1 l[i] by
        rw [List.take_succ_eq_append_getElem hil, En.enc_append]
        simp [enc])
      obtain ⟨x, hx⟩ : ∃ x, x = l[i] := ⟨_, rfl⟩; rw [← hx] at z0 HT; have hal := (En.enc_len (l.take i)).2; rw [List.length_take] at hal; have FP := Aside0.mk (PutP w wr u3 (enc (l.take i)) x HS.out (by omega)); (have hn0 : (0 : Int) ≤ (i : Int) := by omega); (have hn1 : (i : Int) < (n : Int) := by omega); clear hz hx hal; go_wp2_with (go_at_call 95; go_must (refine FP.out.mono ?_; rintro E w4 ⟨v4_, rfl, p1⟩; have S4 := Aside0.mk p1; clear p1)); go_roundw
      case rel => exact ⟨i + 1, by omega, by go_num, ⟨by rw [HT.out]; exact S4.out⟩⟩
      case measure => simp [intOf]; omega
    · (obtain rfl : i = n := by omega); have hd : decide ((i : Int) < (i : Int)) = false := decide_eq_false (by omega); have hd2 : decide (i < i) = false := decide_eq_false (by omega)
      have HS2 := Aside0.mk (show Sep w [rowT KU 5 w.heap.size u3 (enc l)] wr from by
        have h := HS.out; rw [List.take_of_length_le (by rw [← HN.out]; exact Nat.le_refl _)] at h
        exact h)
      clear HS; go_wp2; go_ret; obtain ⟨ok, h⟩ := Sep.one HS2.out 0 _ rfl; exact ⟨_, rfl, Kd.R_mono h (fun _ _ => trivial), HS2.out.below⟩
end Go.Proofs.YthffpkdadffinaaDoor.Urp
namespace Go.Proofs.YthffpkdadffinaaDoor.X
set_option linter.unusedVariables false
set_option linter.unusedSimpArgs false
open Go.RowKit YthffpkdadffinaaDoorW.PrintWords
def tremaref01_Encode.f (_ : Nat) (l0 : List Int) : Option (List Int) := if l0.length * 4 ≤ 140737488351232 then some (En.enc l0) else none
theorem tremaref01_Encode.mono : ∀ a0 k, LeO (tremaref01_Encode.f k a0) (tremaref01_Encode.f (k + 1) a0) := fun _ _ _ h => h
theorem tremaref01_Encode.calls (k : Nat) (A0 : Option Addr) (c0 : Nat) (l0 : List Int) (r : List Int) (w : World) (hr0 : Kd.C (Kd.int .i32) w A0 l0.length l0) (hc0 : l0.length ≤ c0) (h : tremaref01_Encode.f k l0 = some r) :
  Calls Tryd.prog 76 #[.slice A0 l0.length c0] w fun e w' => ∃ v0_ : Value, e = .returned v0_ ∧ Kd.R (Kd.int .u8) 5 w' w.heap.size (fun _ => True) v0_ r ∧ Below w.heap.size w w' := by
  unfold tremaref01_Encode.f at h; split at h
  · rename_i hh; cases Option.some.inj h; exact Urp.EncodeP w A0 l0.length c0 l0 hr0 rfl hc0 hh
  · cases h
end Go.Proofs.YthffpkdadffinaaDoor.X
namespace Go.Proofs.YthffpkdadffinaaDoor.En
set_option linter.unusedVariables false
set_option linter.unusedSimpArgs false
theorem ref_pure (l : List Int) (hl : l.length * 4 ≤ 140737488351232) : X.tremaref01_Encode.f (l.length + 2) l = some (enc l) := by unfold X.tremaref01_Encode.f; rw [if_pos hl]
end Go.Proofs.YthffpkdadffinaaDoor.En
namespace Go.Proofs.YthffpkdadffinaaDoor.Va
set_option linter.unusedVariables false
set_option linter.unusedSimpArgs false
open Go.RowKit YthffpkdadffinaaDoorW.PrintWords Hp
def clsT : List (Int × Int × Int) := [(768, 788, 230), (789, 789, 232), (790, 793, 220), (794, 794, 232), (795, 795, 216), (796, 800, 220), (801, 802, 202), (803, 806, 220), (807, 808, 202), (809, 819, 220), (820, 824, 1), (825, 828, 220), (829, 836, 230), (837, 837, 240), (838, 838, 230), (839, 841, 220), (842, 844, 230), (845, 846, 220), (848, 850, 230), (851, 854, 220), (855, 855, 230), (8400, 8401, 230), (12441, 12442, 8)]
def prsT : List (Int × Int × Int) := [(469, 220, 772), (470, 252, 772), (832, 768, 0), (833, 769, 0), (835, 787, 0), (836, 776, 769), (902, 913, 769), (912, 970, 769), (940, 945, 769), (943, 953, 769), (970, 953, 776), (972, 959, 769), (7691, 100, 775), (7693, 100, 803), (7777, 115, 775), (7779, 115, 803), (7785, 7779, 775), (7841, 97, 803), (7844, 194, 769), (7845, 226, 769), (7863, 7841, 774), (7865, 101, 803), (7879, 7865, 770), (8049, 940, 0), (8115, 945, 837), (8486, 937, 0), (8490, 75, 0), (8491, 197, 0), (8800, 61, 824), (12364, 12363, 12441), (12497, 12495, 12442)]
def mksT : List Int := [768, 769, 770, 771, 772, 774, 775, 776, 778, 779, 780, 807, 808]
def cells3 (l : List (Int × Int × Int)) : List Value := l.flatMap fun p => [.int .i32 p.1, .int .i32 p.2.1, .int .i32 p.2.2]
def G (W : World) : Prop := W.rangeAt 1 0 (cells3 clsT) ∧ W.rangeAt 0 0 (cells3 prsT) ∧ W.rangeAt 2 0 (nums .i32 mksT)
theorem range_below {w W : World} {b o : Nat} {cs : List Value} (h : w.rangeAt b o cs) (hb : Below w.heap.size w W) : W.rangeAt b o cs := fun j v hv => (hb.cell (World.block_lt_of_cell? w _ (h j v hv))).trans (h j v hv)
theorem G.below {w W : World} (h : G w) (hb : Below w.heap.size w W) : G W := ⟨range_below h.1 hb, range_below h.2.1 hb, range_below h.2.2 hb⟩
def clsF (r : Int) : List (Int × Int × Int) → Int
  | [] => 0
  | p :: t => if p.1 ≤ r ∧ r ≤ p.2.1 then p.2.2 else clsF r t
def cls (r : Int) : Int := clsF r clsT
theorem infoC : (Tryd.prog.info? 113).map (·.size) = some (cells3 clsT).length := by kernel_rfl
theorem idxC (i : Nat) (hi : i < 23) : ∀ W : World, (Instr.index 113 (.agg (cells3 clsT).toArray) (.int .i64 (i : Int))).run Tryd.prog W = .ok (.agg #[.int .i32 (clsT.getD i (0, 0, 0)).1, .int .i32 (clsT.getD i (0, 0, 0)).2.1, .int .i32 (clsT.getD i (0, 0, 0)).2.2]) W := by
  intro W
  match i, hi with
  | 0, _ => exact (show _ = _ by kernel_rfl)
  | 1, _ => exact (show _ = _ by kernel_rfl)
  | 2, _ => exact (show _ = _ by kernel_rfl)
  | 3, _ => exact (show _ = _ by kernel_rfl)
  | 4, _ => exact (show _ = _ by kernel_rfl)
  | 5, _ => exact (show _ = _ by kernel_rfl)
  | 6, _ => exact (show _ = _ by kernel_rfl)
  | 7, _ => exact (show _ = _ by kernel_rfl)
  | 8, _ => exact (show _ = _ by kernel_rfl)
  | 9, _ => exact (show _ = _ by kernel_rfl)
  | 10, _ => exact (show _ = _ by kernel_rfl)
  | 11, _ => exact (show _ = _ by kernel_rfl)
  | 12, _ => exact (show _ = _ by kernel_rfl)
  | 13, _ => exact (show _ = _ by kernel_rfl)
  | 14, _ => exact (show _ = _ by kernel_rfl)
  | 15, _ => exact (show _ = _ by kernel_rfl)
  | 16, _ => exact (show _ = _ by kernel_rfl)
  | 17, _ => exact (show _ = _ by kernel_rfl)
  | 18, _ => exact (show _ = _ by kernel_rfl)
  | 19, _ => exact (show _ = _ by kernel_rfl)
  | 20, _ => exact (show _ = _ by kernel_rfl)
  | 21, _ => exact (show _ = _ by kernel_rfl)
  | 22, _ => exact (show _ = _ by kernel_rfl)
  | n + 23, h => exact absurd h (by omega)
theorem cls_small : ∀ p, p ∈ clsT → 0 ≤ p.2.2 ∧ p.2.2 ≤ 240 := by decide
set_option maxRecDepth 100000 in
set_option maxHeartbeats 1000000 in
theorem ClassP (w : World) (hG : G w) (r : Int) : Calls Tryd.prog 55 #[.int .i32 r] w fun e w' => e = .returned (.int .i64 (cls r)) ∧ Below w.heap.size w w' := by
  obtain ⟨tl, htl⟩ : ∃ tl, tl = cells3 clsT := ⟨_, rfl⟩; have HT := Aside0.mk (show w.rangeAt 1 0 tl by rw [htl]; exact hG.1); have HI := Aside0.mk (show (Tryd.prog.info? 113).map (·.size) = some tl.length by rw [htl]; exact infoC); have HX := Aside0.mk (show ∀ i : Nat, i < 23 → ∀ W : World, (Instr.index 113 (.agg tl.toArray) (.int .i64 (i : Int))).run Tryd.prog W = .ok (.agg #[.int .i32 (clsT.getD i (0, 0, 0)).1, .int .i32 (clsT.getD i (0, 0, 0)).2.1, .int .i32 (clsT.getD i (0, 0, 0)).2.2]) W by rw [htl]; exact idxC); clear hG htl; have hu43 := Tryd.underlying110; go_enter Tryd.func55, Tryd.ntmps55; go_wp2_with (refine wpList_load_mid rfl 113 (.global 1) rfl 1 0 rfl tl _ HT.out Tryd.underlying113 rfl HI.out ?_); go_loopw [6] (fun iv wr => ∃ i : Nat, i ≤ 23 ∧ iv = .int .i64 i ∧ Aside0 (cls r = clsF r (clsT.drop i)) ∧ Aside0 (Below w.heap.size w wr)) (fun iv _ => 23 - (intOf iv).toNat)
  case atStart => exact ⟨0, Nat.zero_le _, rfl, ⟨rfl⟩, ⟨Below.refl _ _⟩⟩
  case round =>
    obtain ⟨i, hi, rfl, HE, HB⟩ := hrel; by_cases hlt : i < 23
    · have hd : decide ((i : Int) < 23) = true := decide_eq_true (by omega); have hix := HX.out i hlt; have he := HE.out
      have hmem : clsT.getD i (0, 0, 0) ∈ clsT := by
        have h1 : i < clsT.length := hlt; rw [List.getD_eq_getElem?_getD, List.getElem?_eq_getElem h1]; exact List.getElem_mem h1
      have hsm := cls_small _ hmem
      have hdr : clsT.drop i = clsT.getD i (0, 0, 0) :: clsT.drop (i + 1) := by
        have h1 : i < clsT.length := hlt; rw [List.drop_eq_getElem_cons h1, List.getD_eq_getElem?_getD, List.getElem?_eq_getElem h1]
        rfl
      rw [hdr, clsF] at he; obtain ⟨⟨a, b, c⟩, hp⟩ : ∃ p, p = clsT.getD i (0, 0, 0) := ⟨_, rfl⟩; rw [← hp] at hix he hsm; simp only at hix he hsm; clear hp hmem hdr; have NB := Aside0.mk (show Below w.heap.size w (wr.alloc (.cells #[.int .i32 a, .int .i32 b, .int .i32 c] 110)) from below_then HB.out HB.out.size (below_alloc (Below.refl _ _) _)); by_cases ha : a ≤ r
      · have ha1 : decide (a ≤ r) = true := decide_eq_true ha; by_cases hb : r ≤ b
        · have hb1 : decide (r ≤ b) = true := decide_eq_true hb; rw [if_pos ⟨ha, hb⟩] at he; have HE1 := Aside0.mk he; (have hw3 : wrap64 c = c := by unfold wrap64; omega); clear he; go_wp2; go_ret; exact ⟨by rw [HE1.out]; rfl, NB.out⟩
        · have hb1 : decide (r ≤ b) = false := decide_eq_false hb; rw [if_neg (fun h => hb h.2)] at he; have HE1 := Aside0.mk he; clear he; go_wp2; go_roundw
          case rel => exact ⟨i + 1, by omega, by go_num, HE1, NB⟩
          case measure => simp [intOf]; omega
      · have ha1 : decide (a ≤ r) = false := decide_eq_false ha; rw [if_neg (fun h => ha h.1)] at he; have HE1 := Aside0.mk he; clear he; go_wp2; go_roundw
        case rel => exact ⟨i + 1, by omega, by go_num, HE1, NB⟩
        case measure => simp [intOf]; omega
    · have hd : decide ((i : Int) < 23) = false := decide_eq_false (by omega); (obtain rfl : i = 23 := by omega); have he := HE.out; have HE1 := Aside0.mk (show cls r = 0 from he); clear he; go_wp2; go_ret; exact ⟨by rw [HE1.out]; rfl, HB.out⟩
end Go.Proofs.YthffpkdadffinaaDoor.Va
namespace Go.Proofs.YthffpkdadffinaaDoor.X
set_option linter.unusedVariables false
set_option linter.unusedSimpArgs false
open Go.RowKit YthffpkdadffinaaDoorW.PrintWords
end Go.Proofs.YthffpkdadffinaaDoor.X
namespace Go.Proofs.YthffpkdadffinaaDoor.Na
set_option linter.unusedVariables false
set_option linter.unusedSimpArgs false
open Va
def Sw (a b : List Int) : Prop := ∀ c : Int, a.filter (fun x => cls x == c) = b.filter (fun x => cls x == c)
def Srt (a : List Int) : Prop := a.Pairwise (fun x y => cls x ≤ cls y)
theorem Sw.refl (a : List Int) : Sw a a := fun _ => rfl
theorem Sw.symm {a b : List Int} (h : Sw a b) : Sw b a := fun c => (h c).symm
theorem Sw.trans {a b c : List Int} (h : Sw a b) (k : Sw b c) : Sw a c := fun d => (h d).trans (k d)
theorem Sw.append {a b c d : List Int} (h : Sw a b) (k : Sw c d) : Sw (a ++ c) (b ++ d) := fun e => by rw [List.filter_append, List.filter_append, h e, k e]
theorem Sw.comm {a b : List Int} (h : ∀ x ∈ a, ∀ y ∈ b, cls x ≠ cls y) : Sw (a ++ b) (b ++ a) := fun c => by
  rw [List.filter_append, List.filter_append]; by_cases hc : ∃ x ∈ a, cls x = c
  · obtain ⟨x, hx, rfl⟩ := hc; have : b.filter (fun y => cls y == cls x) = [] := List.filter_eq_nil_iff.2 (fun y hy => by have := h x hx y hy; simp; exact fun e => this e.symm); rw [this]; simp
  · have : a.filter (fun y => cls y == c) = [] := List.filter_eq_nil_iff.2 (fun y hy => by simp; exact fun e => hc ⟨y, hy, e⟩); rw [this]; simp
theorem Sw.mem {a b : List Int} (h : Sw a b) (x : Int) : x ∈ a ↔ x ∈ b := by
  have := h (cls x); (have e : ∀ l : List Int, x ∈ l ↔ x ∈ l.filter (fun y => cls y == cls x) := fun l => by simp); rw [e a, e b, this]
theorem filt_len {a b : List Int} : ∀ (n : Nat), a.length ≤ n → Sw a b → a.length ≤ b.length := by
  intro n
  induction n generalizing a b with
  | zero => intro h _; omega
  | succ n ih =>
    intro h hs
    cases a with
    | nil => simp
    | cons x t =>
      have hx : x ∈ b := (hs.mem x).1 (List.mem_cons_self ..); have h1 := hs (cls x)
      have ea : (x :: t).length = ((x :: t).filter (fun y => cls y == cls x)).length + ((x :: t).filter (fun y => !(cls y == cls x))).length := by
        rw [← List.length_append]; exact (List.filter_append_perm _ _).length_eq.symm
      have eb : b.length = (b.filter (fun y => cls y == cls x)).length + (b.filter (fun y => !(cls y == cls x))).length := by
        rw [← List.length_append]; exact (List.filter_append_perm _ _).length_eq.symm
      have hs2 : Sw ((x :: t).filter (fun y => !(cls y == cls x))) (b.filter (fun y => !(cls y == cls x))) := fun c => by
        rw [List.filter_filter, List.filter_filter]; by_cases hc : c = cls x
        · (have e : ∀ l : List Int, l.filter (fun a => (cls a == c) && !(cls a == cls x)) = [] := fun l => List.filter_eq_nil_iff.2 (fun y _ => by rw [hc]; simp)); rw [e, e]
        · have e : ∀ l : List Int, l.filter (fun a => (cls a == c) && !(cls a == cls x)) = l.filter (fun a => cls a == c) := fun l => List.filter_congr (fun y _ => by
            by_cases hy : cls y = c
            · simp [hy, hc]
            · simp [hy])
          rw [e, e]; exact hs c
      have hlt : ((x :: t).filter (fun y => !(cls y == cls x))).length ≤ n := by
        (have : ((x :: t).filter (fun y => !(cls y == cls x))) = t.filter (fun y => !(cls y == cls x)) := by simp [List.filter_cons]); rw [this]; have := List.length_filter_le (fun y => !(cls y == cls x)) t; simp at h; omega
      have := ih hlt hs2; rw [ea, eb, h1]; omega
theorem Sw.length {a b : List Int} (h : Sw a b) : a.length = b.length := Nat.le_antisymm (filt_len _ (Nat.le_refl _) h) (filt_len _ (Nat.le_refl _) h.symm)
theorem Srt.append {a b : List Int} (ha : Srt a) (hb : Srt b) (h : ∀ x ∈ a, ∀ y ∈ b, cls x ≤ cls y) : Srt (a ++ b) := List.pairwise_append.2 ⟨ha, hb, h⟩
theorem unique : ∀ (a b : List Int), Srt a → Srt b → Sw a b → a = b
  | [], b, _, _, h => by
    cases b with
    | nil => rfl
    | cons y t => exact absurd ((h.mem y).2 (List.mem_cons_self ..)) (by simp)
  | x :: a, [], _, _, h => absurd ((h.mem x).1 (List.mem_cons_self ..)) (by simp)
  | x :: a, y :: b, ha, hb, h => by
    have ha1 := List.pairwise_cons.1 ha; have hb1 := List.pairwise_cons.1 hb
    have h1 : cls y ≤ cls x := by
      rcases List.mem_cons.1 ((h.mem x).1 (List.mem_cons_self ..)) with e | e
      · rw [e]; exact Int.le_refl _
      · exact hb1.1 x e
    have h2 : cls x ≤ cls y := by
      rcases List.mem_cons.1 ((h.mem y).2 (List.mem_cons_self ..)) with e | e
      · rw [e]; exact Int.le_refl _
      · exact ha1.1 y e
    have hk : cls x = cls y := Int.le_antisymm h2 h1; have h3 := h (cls x); rw [List.filter_cons, List.filter_cons, hk] at h3; simp only [beq_self_eq_true, if_true] at h3; obtain ⟨rfl, h4⟩ := List.cons.inj h3
    have ht : Sw a b := fun c => by
      have := h c; rw [List.filter_cons, List.filter_cons] at this; by_cases hc : cls x = c
      · have hc' : (cls x == c) = true := beq_iff_eq.2 hc; simp only [hc', if_true] at this; exact (List.cons.inj this).2
      · have hc' : (cls x == c) = false := beq_eq_false_iff_ne.2 hc; simp only [hc', Bool.false_eq_true, if_false] at this; exact this
    rw [unique a b ha1.2 hb1.2 ht]
def ins (x : Int) : List Int → List Int
  | [] => [x]
  | y :: r => if cls x ≠ 0 ∧ cls x < cls y then y :: ins x r else x :: y :: r
def ordR (l : List Int) : List Int := l.foldl (fun acc x => ins x acc) []
def ordL (l : List Int) : List Int := (ordR l).reverse
theorem ins_zero {x : Int} (h : cls x = 0) (r : List Int) : ins x r = x :: r := by
  cases r with
  | nil => rfl
  | cons y r => rw [ins, if_neg (fun k => k.1 h)]
theorem cls_nonneg (x : Int) : 0 ≤ cls x := by
  have key : ∀ l : List (Int × Int × Int), (∀ p ∈ l, 0 ≤ p.2.2) → 0 ≤ clsF x l := by
    intro l
    induction l with
    | nil => intro _; exact Int.le_refl _
    | cons p t ih =>
      intro h; rw [clsF]; split
      · exact h p (List.mem_cons_self ..)
      · exact ih (fun q hq => h q (List.mem_cons_of_mem _ hq))
  exact key clsT (fun p hp => (cls_small p hp).1)
theorem ins_append (x : Int) {r s : List Int} (hs : s = [] ∨ ∃ z t, s = z :: t ∧ cls z = 0) : ins x (r ++ s) = ins x r ++ s := by
  induction r with
  | nil =>
    rcases hs with rfl | ⟨z, t, rfl, hz⟩
    · rfl
    · have hx := cls_nonneg x; (have hn : ¬ (cls x ≠ 0 ∧ cls x < cls z) := fun k => by have := k.2; omega); (show ins x (z :: t) = x :: z :: t); rw [ins, if_neg hn]
  | cons y r ih =>
    rw [List.cons_append, ins, ins, ih]; split <;> rfl
theorem fold_append {s : List Int} (hs : s = [] ∨ ∃ z t, s = z :: t ∧ cls z = 0) : ∀ (l r : List Int), l.foldl (fun acc x => ins x acc) (r ++ s) = l.foldl (fun acc x => ins x acc) r ++ s
  | [], _ => rfl
  | x :: l, r => by rw [List.foldl_cons, List.foldl_cons, ins_append x hs, fold_append hs l]
theorem ordL_starter (a b : List Int) {z : Int} (hz : cls z = 0) : ordL (a ++ z :: b) = ordL a ++ z :: ordL b := by
  unfold ordL ordR; rw [List.foldl_append, List.foldl_cons, ins_zero hz]; have := fold_append (.inr ⟨z, a.foldl (fun acc x => ins x acc) [], rfl, hz⟩) b []; rw [List.nil_append] at this; rw [this, List.reverse_append, List.reverse_cons, List.append_assoc]
  rfl
theorem ins_sw (x : Int) (r : List Int) : Sw (ins x r).reverse (r.reverse ++ [x]) := by
  induction r with
  | nil => exact Sw.refl _
  | cons y r ih =>
    rw [ins]; split
    · rename_i h; rw [List.reverse_cons, List.reverse_cons]; refine (ih.append (Sw.refl [y])).trans ?_; rw [List.append_assoc, List.append_assoc]; refine (Sw.refl _).append (Sw.comm (fun p hp q hq => ?_)); simp at hp hq; subst hp hq; omega
    · rw [List.reverse_cons]; exact Sw.refl _
theorem fold_sw : ∀ (l r : List Int), Sw (l.foldl (fun acc x => ins x acc) r).reverse (r.reverse ++ l)
  | [], r => by rw [List.append_nil]; exact Sw.refl _
  | x :: l, r => by
    rw [List.foldl_cons]; refine (fold_sw l _).trans ?_; have := (ins_sw x r).append (Sw.refl l); rw [List.append_assoc] at this; exact this
theorem ordL_sw (l : List Int) : Sw (ordL l) l := by have := fold_sw l []; exact this
theorem ordL_len (l : List Int) : (ordL l).length = l.length := (ordL_sw l).length
theorem ordL_mem (l : List Int) (x : Int) : x ∈ ordL l ↔ x ∈ l := (ordL_sw l).mem x
theorem ins_srt (x : Int) (hx : cls x ≠ 0) (r : List Int) (h : Srt r.reverse) : Srt (ins x r).reverse := by
  induction r with
  | nil => exact List.pairwise_singleton ..
  | cons y r ih =>
    rw [List.reverse_cons] at h; have h1 := List.pairwise_append.1 h; rw [ins]; split
    · rename_i hc; rw [List.reverse_cons]; refine Srt.append (ih h1.1) (List.pairwise_singleton ..) (fun p hp q hq => ?_); simp at hq; subst hq; have := (ins_sw x r).mem p; rw [this] at hp; rcases List.mem_append.1 hp with hp | hp
      · exact h1.2.2 p hp q (by simp)
      · simp at hp; subst hp; omega
    · rename_i hc; rw [List.reverse_cons, List.reverse_cons]; refine Srt.append h (List.pairwise_singleton ..) (fun p hp q hq => ?_); simp at hq; subst hq
      have hyq : cls y ≤ cls q := by
        by_cases h : cls q < cls y
        · exact absurd ⟨hx, h⟩ hc
        · omega
      rcases List.mem_append.1 hp with hp | hp
      · exact Int.le_trans (h1.2.2 p hp y (by simp)) hyq
      · simp at hp; subst hp; exact hyq
theorem fold_srt : ∀ (l r : List Int), (∀ x ∈ l, cls x ≠ 0) → Srt r.reverse → Srt (l.foldl (fun acc x => ins x acc) r).reverse
  | [], _, _, h => h
  | x :: l, r, hl, h => by
    rw [List.foldl_cons]; exact fold_srt l _ (fun y hy => hl y (List.mem_cons_of_mem _ hy)) (ins_srt x (hl x (List.mem_cons_self ..)) r h)
theorem ordL_run {l s : List Int} (hl : ∀ x ∈ l, cls x ≠ 0) (hs : Srt s) (h : Sw l s) : ordL l = s :=
  unique _ _ (fold_srt l [] hl List.Pairwise.nil) hs ((ordL_sw l).trans h)
theorem ordL_cut (a b : List Int) (h : b = [] ∨ (∃ z t, b = z :: t ∧ cls z = 0)) : ordL (a ++ b) = ordL a ++ ordL b := by
  rcases h with rfl | ⟨z, t, rfl, hz⟩
  · simp [ordL, ordR]
  · rw [ordL_starter a t hz]; have := ordL_starter [] t hz; rw [List.nil_append] at this; rw [this]
    rfl
end Go.Proofs.YthffpkdadffinaaDoor.Na
namespace Go.Proofs.YthffpkdadffinaaDoor.Nc
set_option linter.unusedVariables false
set_option linter.unusedSimpArgs false
open Va Na
theorem set2 (P Q R : List Int) (x y : Int) : ((P ++ x :: (Q ++ y :: R)).set P.length y).set (P.length + 1 + Q.length) x = P ++ y :: (Q ++ x :: R) := by
  rw [List.set_append_right _ _ (Nat.le_refl _), Nat.sub_self, List.set_cons_zero, List.set_append_right _ _ (by omega), show P.length + 1 + Q.length - P.length = Q.length + 1 by omega, List.set_cons_succ, List.set_append_right _ _ (Nat.le_refl _), Nat.sub_self, List.set_cons_zero]
theorem set2' (P Q R : List Int) (x y : Int) : ((P ++ x :: (Q ++ y :: R)).set (P.length + 1 + Q.length) x).set P.length y = P ++ y :: (Q ++ x :: R) := by
  rw [List.set_append_right _ _ (by omega), show P.length + 1 + Q.length - P.length = Q.length + 1 by omega, List.set_cons_succ, List.set_append_right _ _ (Nat.le_refl _), Nat.sub_self, List.set_cons_zero, List.set_append_right _ _ (Nat.le_refl _), Nat.sub_self, List.set_cons_zero]
theorem get_at (P R : List Int) (x : Int) : (P ++ x :: R).getD P.length 0 = x := by simp [List.getD_eq_getElem?_getD]
theorem get_at2 (P Q R : List Int) (x y : Int) : (P ++ x :: (Q ++ y :: R)).getD (P.length + 1 + Q.length) 0 = y := by
  simp [List.getD_eq_getElem?_getD, List.getElem?_append, show ¬ P.length + 1 + Q.length < P.length by omega, show P.length + 1 + Q.length - P.length = Q.length + 1 by omega]
structure WayL (S L : List Int) (x : Int) (R : List Int) : Prop where
  all : S = L ++ R
  less : ∀ r ∈ R, cls x < cls r
theorem WayL.start (S : List Int) (x : Int) : WayL S S x [] := ⟨by simp, by simp⟩
theorem WayL.step {S L R : List Int} {x y : Int} (h : WayL S (L ++ [y]) x R) (hy : cls x < cls y) : WayL S L x (y :: R) :=
  ⟨by rw [h.all]; simp, fun r hr => by rcases List.mem_cons.1 hr with rfl | hr; exact hy; exact h.less r hr⟩
theorem WayL.stop {S L R : List Int} {x : Int} (h : WayL S L x R) (hs : Srt S) (hl : ∀ y ∈ L, cls y ≤ cls x) : Srt (L ++ x :: R) ∧ Sw (S ++ [x]) (L ++ x :: R) := by
  have h1 := h.all; subst h1; have hp := List.pairwise_append.1 hs; refine ⟨List.pairwise_append.2 ⟨hp.1, List.pairwise_cons.2 ⟨fun r hr => Int.le_of_lt (h.less r hr), hp.2.1⟩, fun a ha b hb => ?_⟩, ?_⟩
  · rcases List.mem_cons.1 hb with rfl | hb
    · exact hl a ha
    · exact hp.2.2 a ha b hb
  · rw [List.append_assoc]; refine (Sw.refl L).append ?_; have := Sw.comm (a := R) (b := [x]) (fun r hr z hz => by simp at hz; subst hz; have := h.less r hr; omega); exact this
theorem last_le {L : List Int} {y x : Int} (hs : Srt (L ++ [y])) (h : cls y ≤ cls x) : ∀ z ∈ L ++ [y], cls z ≤ cls x := fun z hz => by
  rcases List.mem_append.1 hz with hz | hz
  · exact Int.le_trans ((List.pairwise_append.1 hs).2.2 z hz y (by simp)) h
  · simp at hz; subst hz; exact h
theorem srt_left {a b : List Int} (h : Srt (a ++ b)) : Srt a := (List.pairwise_append.1 h).1
theorem srt_right {a b : List Int} (h : Srt (a ++ b)) : Srt b := (List.pairwise_append.1 h).2.1
def K (l : List Int) (i : Nat) : Int := cls (l.getD i 0)
theorem srt_le {l : List Int} (h : Srt l) {i j : Nat} (hij : i ≤ j) (hj : j < l.length) : K l i ≤ K l j := by
  unfold K; rw [List.getD_eq_getElem?_getD, List.getD_eq_getElem?_getD, List.getElem?_eq_getElem hj, List.getElem?_eq_getElem (by omega)]; simp only [Option.getD_some]; rcases Nat.lt_or_ge i j with h1 | h1
  · exact List.pairwise_iff_getElem.1 h i j (by omega) hj h1
  · (obtain rfl : i = j := by omega); exact Int.le_refl _
theorem K_mem {l : List Int} {x : Int} (h : x ∈ l) : ∃ i, i < l.length ∧ cls x = K l i := by
  obtain ⟨i, hi, rfl⟩ := List.mem_iff_getElem.1 h; exact ⟨i, hi, by unfold K; rw [List.getD_eq_getElem?_getD, List.getElem?_eq_getElem hi]; rfl⟩
theorem K_take {l : List Int} {n i : Nat} (h : i < n) : K (l.take n) i = K l i := by unfold K; simp [List.getD_eq_getElem?_getD, List.getElem?_take, h]
theorem K_drop {l : List Int} {n i : Nat} : K (l.drop n) i = K l (n + i) := by unfold K; simp [List.getD_eq_getElem?_getD, List.getElem?_drop]
theorem K_left {a b : List Int} {i : Nat} (h : i < a.length) : K (a ++ b) i = K a i := by unfold K; simp [List.getD_eq_getElem?_getD, List.getElem?_append, h]
theorem one_left {S : List Int} {x : Int} (hs : Srt S) (t : Nat) (h1 : ∀ i, i < t → i < S.length → K S i < cls x) (h2 : ∀ i, t ≤ i → i < S.length → cls x ≤ K S i) : Srt (S.take t ++ x :: S.drop t) ∧ Sw (x :: S) (S.take t ++ x :: S.drop t) := by
  have a1 : ∀ y ∈ S.take t, cls y < cls x := fun y hy => by
    obtain ⟨i, hi, e⟩ := K_mem hy; rw [List.length_take] at hi; rw [e, K_take (by omega)]; exact h1 i (by omega) (by omega)
  have a2 : ∀ y ∈ S.drop t, cls x ≤ cls y := fun y hy => by
    obtain ⟨i, hi, e⟩ := K_mem hy; rw [List.length_drop] at hi; rw [e, K_drop]; exact h2 _ (by omega) (by omega)
  have hsp := hs; rw [← List.take_append_drop t S] at hsp; have hp := List.pairwise_append.1 hsp; refine ⟨List.pairwise_append.2 ⟨hp.1, List.pairwise_cons.2 ⟨a2, hp.2.1⟩, fun a ha b hb => ?_⟩, ?_⟩
  · rcases List.mem_cons.1 hb with rfl | hb
    · exact Int.le_of_lt (a1 a ha)
    · exact hp.2.2 a ha b hb
  · have := (Sw.comm (a := [x]) (b := S.take t) (fun z hz y hy => by simp at hz; subst hz; have := a1 y hy; omega)).append (Sw.refl (S.drop t))
    simpa using this
theorem one_right {S : List Int} {y : Int} (hs : Srt S) (t : Nat) (h1 : ∀ i, i < t → i < S.length → K S i ≤ cls y) (h2 : ∀ i, t ≤ i → i < S.length → cls y < K S i) : Srt (S.take t ++ y :: S.drop t) ∧ Sw (S ++ [y]) (S.take t ++ y :: S.drop t) := by
  have a1 : ∀ z ∈ S.take t, cls z ≤ cls y := fun z hz => by
    obtain ⟨i, hi, e⟩ := K_mem hz; rw [List.length_take] at hi; rw [e, K_take (by omega)]; exact h1 i (by omega) (by omega)
  have a2 : ∀ z ∈ S.drop t, cls y < cls z := fun z hz => by
    obtain ⟨i, hi, e⟩ := K_mem hz; rw [List.length_drop] at hi; rw [e, K_drop]; exact h2 _ (by omega) (by omega)
  exact WayL.stop (S := S) ⟨(List.take_append_drop t S).symm, a2⟩ hs a1
theorem halves {P U V Q X Y : List Int} (h1 : Srt (P ++ U)) (h2 : Srt (V ++ Q)) (hpq : ∀ p ∈ P, ∀ q ∈ Q, cls p ≤ cls q) (hvu : ∀ v ∈ V, ∀ u ∈ U, cls v < cls u) (hx : Srt X) (hxs : Sw (P ++ V) X) (hy : Srt Y) (hys : Sw (U ++ Q) Y) :
    Srt (X ++ Y) ∧ Sw (P ++ U ++ (V ++ Q)) (X ++ Y) := by
  have hp1 := List.pairwise_append.1 h1; have hp2 := List.pairwise_append.1 h2; refine ⟨List.pairwise_append.2 ⟨hx, hy, fun a ha b hb => ?_⟩, ?_⟩
  · rcases List.mem_append.1 ((hxs.mem a).2 ha) with ha | ha <;> rcases List.mem_append.1 ((hys.mem b).2 hb) with hb | hb
    · exact hp1.2.2 a ha b hb
    · exact hpq a ha b hb
    · exact Int.le_of_lt (hvu a ha b hb)
    · exact hp2.2.2 a ha b hb
  · refine Sw.trans ?_ (hxs.append hys); have h := (Sw.refl P).append ((Sw.comm (a := U) (b := V) (fun u hu v hv => by have := hvu v hv u hu; omega)).append (Sw.refl Q))
    simpa using h
theorem parted {S1 S2 : List Int} {s e : Nat} (h1 : Srt S1) (h2 : Srt S2) (hs : s ≤ S1.length) (he : e ≤ S2.length)
    (g : 0 < s → e < S2.length → K S1 (s - 1) ≤ K S2 e) (b : s < S1.length → 0 < e → K S2 (e - 1) < K S1 s) :
    (∀ p ∈ S1.take s, ∀ q ∈ S2.drop e, cls p ≤ cls q) ∧ (∀ v ∈ S2.take e, ∀ u ∈ S1.drop s, cls v < cls u) := by
  constructor
  · intro p hp q hq; obtain ⟨i, hi, e1⟩ := K_mem hp; obtain ⟨j, hj, e2⟩ := K_mem hq; rw [List.length_take] at hi; rw [List.length_drop] at hj; rw [e1, e2, K_take (by omega), K_drop]; exact Int.le_trans (srt_le h1 (show i ≤ s - 1 by omega) (by omega)) (Int.le_trans (g (by omega) (by omega)) (srt_le h2 (by omega) (by omega)))
  · intro v hv u hu; obtain ⟨i, hi, e1⟩ := K_mem hv; obtain ⟨j, hj, e2⟩ := K_mem hu; rw [List.length_take] at hi; rw [List.length_drop] at hj; rw [e1, e2, K_take (by omega), K_drop]; exact Int.lt_of_le_of_lt (srt_le h2 (show i ≤ e - 1 by omega) (by omega)) (Int.lt_of_lt_of_le (b (by omega) (by omega)) (srt_le h1 (by omega) (by omega)))
end Go.Proofs.YthffpkdadffinaaDoor.Nc
namespace Go.Proofs.YthffpkdadffinaaDoor.Nb
set_option linter.unusedVariables false
set_option linter.unusedSimpArgs false
open Go.RowKit YthffpkdadffinaaDoorW.PrintWords Hp Va
def Reg (w : World) (g : Nat) (pre post : List Value) (xs : List Int) : Prop := w.heap[g]? = some (.cells (pre ++ nums .i32 xs ++ post).toArray 21 (0, 0))
section
variable {w w' : World} {g : Nat} {pre post : List Value} {xs : List Int}
theorem Reg.at_ (h : Reg w g pre post xs) (i : Nat) (hi : i < xs.length) : w.cell? ⟨g, pre.length + i, none⟩ = some (.int .i32 (xs.getD i 0)) := by
  rw [blk_cell h]; rw [List.getElem?_toArray, List.append_assoc, List.getElem?_append_right (by omega), List.getElem?_append_left (by simp [nums]; omega)]; simp [nums, List.getElem?_eq_getElem hi]
theorem Reg.free (h : Reg w g pre post xs) (i : Nat) : w.frozen? ⟨g, i, none⟩ = false := blk_frozen h i
theorem Reg.set (h : Reg w g pre post xs) (i : Nat) (hi : i < xs.length) (v : Int) : Reg (w.setCell ⟨g, pre.length + i, none⟩ (.int .i32 v)) g pre post (xs.set i v) := by
  refine blk_put h _ _ ?_; apply Array.ext'; rw [Array.toList_setIfInBounds]; simp only []; rw [List.append_assoc, List.append_assoc, List.set_append_right _ _ (by omega), List.set_append_left _ _ (by simp [nums]; omega)]; simp [nums, List.map_set]
theorem Reg.below (h : Reg w g pre post xs) (c : Below w.heap.size w w') : Reg w' g pre post xs := blk_below h c
theorem Reg.drewN (h : Reg w g pre post xs) (n : Nat) : Reg (w.drewN n) g pre post xs := h
theorem Reg.drew (h : Reg w g pre post xs) : Reg w.drew g pre post xs := h
theorem Reg.lt (h : Reg w g pre post xs) : g < w.heap.size := blk_lt h
theorem Reg.of_row {base n c : Nat} {ok : Nat → Prop} {v : Value} (h : Kd.R (Kd.int .i32) 21 w base ok v xs) : (xs = [] ∧ ∃ n, v = .slice none n 0 ∧ n = 0) ∨ ∃ g cap post, v = .slice (some ⟨g, 0, none⟩) xs.length cap ∧ xs.length ≤ cap ∧ cap ≤ maxLen ∧ cap = xs.length + post.length ∧ base ≤ g ∧ Reg w g [] post xs := by
  obtain ⟨_, inner, ⟨hl, ho⟩, hr⟩ := h
  have hin : inner = nums .i32 xs := by
    (refine List.ext_getElem (by rw [hr.1]; simp only [nums, List.length_map]; exact Nat.mul_one _) fun i h1 h2 => ?_); (have hi : i < xs.length := by simpa [nums] using h2); have := hr.2 i xs[i] (List.getElem?_eq_getElem hi); have e : (List.take 1 (List.drop (i * 1) inner)) = [.int .i32 xs[i]] := this; rw [Nat.mul_one, List.drop_eq_getElem_cons h1, List.take_succ_cons, List.take_zero] at e; rw [(List.cons.inj e).1]; simp [nums]
  rcases ho with ⟨rfl, h0⟩ | ⟨g, cap, cur, rfl, hb, hh, hnc, hcm, hcs, ht⟩
  · exact .inl ⟨List.eq_nil_of_length_eq_zero h0, 0, rfl, rfl⟩
  · refine .inr ⟨g, cap, cur.toList.drop xs.length, rfl, hnc, hcm, ?_, hb, ?_⟩
    · have : cur.size = cap * 1 := hcs; simp; omega
    · have e : cur.toList.take xs.length = nums .i32 xs := by
        have : cur.toList.take (xs.length * 1) = inner := ht; rw [Nat.mul_one] at this; rw [this, hin]
      unfold Reg; rw [List.nil_append, ← e, List.take_append_drop]; exact hh
theorem Reg.to_row {base cap : Nat} {ok : Nat → Prop} (h : Reg w g [] post xs) (hb : base ≤ g) (hok : ok g) (hcm : cap ≤ maxLen) (hc : cap = xs.length + post.length) : Kd.R (Kd.int .i32) 21 w base ok (.slice (some ⟨g, 0, none⟩) xs.length cap) xs := by
  refine ⟨fun k hk => ?_, nums .i32 xs, ⟨by simp only [nums, List.length_map]; exact (Nat.mul_one _).symm, .inr ⟨g, cap, _, rfl, hb, h, by omega, hcm, ?_, ?_⟩⟩, ⟨by simp only [nums, List.length_map]; exact (Nat.mul_one _).symm, fun j p hj => ?_⟩⟩
  · (have : g = k := by simpa [Value.ownBlock] using hk); exact this ▸ hok
  · (show _ = cap * 1); simp [nums]; omega
  · (show List.take (xs.length * 1) _ = _); rw [Nat.mul_one]; simp [nums]
  · obtain ⟨hjl, rfl⟩ := List.getElem?_eq_some_iff.1 hj; (show List.take 1 (List.drop (j * 1) (nums .i32 xs)) = [.int .i32 xs[j]]); (have hjn : j < (nums .i32 xs).length := by simpa [nums] using hjl); rw [Nat.mul_one, List.drop_eq_getElem_cons hjn, List.take_succ_cons, List.take_zero]; simp [nums]
theorem Reg.two {P Q R : List Int} {x y : Int} (h : Reg w g pre post (P ++ x :: (Q ++ y :: R))) {off p q : Nat} (ho : off = pre.length) (hp : p = P.length) (hq : q = P.length + 1 + Q.length) :
    w.cell? ⟨g, off + p, none⟩ = some (.int .i32 x) ∧ w.cell? ⟨g, off + q, none⟩ = some (.int .i32 y) ∧
    Reg ((w.setCell ⟨g, off + p, none⟩ (.int .i32 y)).setCell ⟨g, off + q, none⟩ (.int .i32 x)) g pre post (P ++ y :: (Q ++ x :: R)) ∧
    Reg ((w.setCell ⟨g, off + q, none⟩ (.int .i32 x)).setCell ⟨g, off + p, none⟩ (.int .i32 y)) g pre post (P ++ y :: (Q ++ x :: R)) := by
  subst ho hp hq; refine ⟨?_, ?_, ?_, ?_⟩
  · have := h.at_ P.length (by simp); rw [Nc.get_at] at this; exact this
  · have := h.at_ (P.length + 1 + Q.length) (by simp; omega); rw [Nc.get_at2] at this; exact this
  · have h1 := (h.set P.length (by simp) y).set (P.length + 1 + Q.length) (by simp; omega) x; rw [Nc.set2] at h1; exact h1
  · have h1 := (h.set (P.length + 1 + Q.length) (by simp; omega) x).set P.length (by simp) y; rw [Nc.set2'] at h1; exact h1
theorem G_chg {S : Nat → Prop} (h : G w) (c : Chg S w w') (hS : ∀ k, k < 3 → ¬ S k) : G w' :=
  ⟨fun j v hv => cell_chg (h.1 j v hv) c (hS 1 (by decide)), fun j v hv => cell_chg (h.2.1 j v hv) c (hS 0 (by decide)), fun j v hv => cell_chg (h.2.2 j v hv) c (hS 2 (by decide))⟩
theorem G_size (h : G w) : 3 ≤ w.heap.size := by
  have := h.2.2 0 (.int .i32 768) rfl; have := World.block_lt_of_cell? w _ this; exact this
end
structure Aft (w : World) where
  w' : World
  hb : Below w.heap.size w w'
instance (w : World) : Inhabited (Aft w) := ⟨⟨w, Below.refl _ _⟩⟩
theorem wp_region_aft {P : Program} {id : Nat} {Q : Exit → Act → World → Prop} {a : Act} {w : World} {l : List Oper} (hm : P.follows .mixedOrders = true) (hB : Region.lexB .any l.toArray = true)
    (h : wpQuiet P l.toArray (fun w2 => ∃ p : Aft w, w2 = p.w') (fun a' => ∀ w2, (∃ p : Aft w, w2 = p.w') → Q .normal a' w2) l a) : (Code.region id l.toArray true).wp P Q a w :=
  wp_region_quiet (C := fun w2 => ∃ p : Aft w, w2 = p.w') hm hB ⟨⟨w.drew, below_drew (Below.refl _ _)⟩, rfl⟩ (by simpa using h)
theorem Aft.cell {w : World} (p : Aft w) {a : Addr} {v : Value} (h : w.cell? a = some v) : p.w'.cell? a = some v := (p.hb.cell (World.block_lt_of_cell? w a h)).trans h
theorem aft_of {P : Program} {f : FuncId} {args : Array Value} {w : World} {p : Aft w} {v : Value} (h : Calls P f args p.w' fun e w' => e = .returned v ∧ Below p.w'.heap.size p.w' w') : Calls P f args p.w' fun e w'' => e = .returned v ∧ ∃ q : Aft w, w'' = q.w' :=
  h.mono fun _ w2 ⟨he, hb⟩ => ⟨he, ⟨w2, below_then p.hb p.hb.size hb⟩, rfl⟩
end Go.Proofs.YthffpkdadffinaaDoor.Nb
namespace Go.Proofs.YthffpkdadffinaaDoor.X
open Go.RowKit YthffpkdadffinaaDoorW.PrintWords YthffpkdadffinaaDoorW.PrintLast YthffpkdadffinaaDoorW.PrintMore
attribute [local go_sem] max2_int min2_int max_two min_two max_three min_three max_four min_four   
set_option linter.unusedVariables false
set_option linter.unusedSimpArgs false
def cmp_isNaN_int.f (a0 : Int) : Option (Bool) := some (a0 != a0)
set_option maxHeartbeats 8000000 in
set_option maxRecDepth 100000 in
theorem cmp_isNaN_int.calls (a0 : Int) (r : Bool) (w : World) (h : cmp_isNaN_int.f a0 = some r) :
  Calls Tryd.prog 124 #[.int .i64 a0] w fun e w' => e = .returned (.bool r) ∧ Drawn0 w w' := by
 have H : (some (a0 != a0)) = some r := h; clear h; obtain rfl := Option.some.inj H; go_enter Tryd.func124, Tryd.ntmps124; go_wp2; go_ret; exact ⟨by first | rfl | (simp; done) | (simp [*]; done), by repeat (first | exact Drawn0.refl _ | apply Drawn0.step)⟩
end Go.Proofs.YthffpkdadffinaaDoor.X
