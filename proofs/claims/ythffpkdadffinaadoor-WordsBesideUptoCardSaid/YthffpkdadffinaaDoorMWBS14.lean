/-
  Several texts of this claim in one: what its law's proof uses.
-/
import Derived.Test.YthffpkdadffinaaDoorMWBS13
import Derived.Test.YthffpkdadffinaaDoorMWBS4
import Derived.WalkSpells
import Derived.Test.YthffpkdadffinaaDoorMWBS2
import Derived.Test.YthffpkdadffinaaDoorMWBS6
import Derived.Test.YthffpkdadffinaaDoorMWBS9
import Derived.Test.YthffpkdadffinaaDoorMWBS10
import Derived.Test.YthffpkdadffinaaDoorMWBS12
namespace Go.Proofs.YthffpkdadffinaaDoor.Wb
set_option linter.unusedVariables false
set_option linter.unusedSimpArgs false
open Go.Proofs.YthffpkdadffinaaDoor.Ux (Bytes full)
open Go.Proofs.YthffpkdadffinaaDoor.Ve (opn)
open Go.Proofs.YthffpkdadffinaaDoor.Vb (cat)
open Go.Proofs.YthffpkdadffinaaDoor.Ot (rns)
open Go.RowKit YthffpkdadffinaaDoorW.PrintWords X Vp0 Sga Sgb Sgp Sgt Sgv Sgw Wa
def kindU : List Int → Int
  | [] => 0
  | x :: _ => if x = 95 then 3 else if cat x = 1 then 1 else if cat x = 3 then 2 else 0
def kindF (s : ByteArray) : Int := kindU (rns (bytesOf s))
def jointF (s : ByteArray) : Int := if s = ⟨#[39]⟩ ∨ s = ⟨#[226, 128, 153]⟩ ∨ s = ⟨#[194, 183]⟩ then 1 else if s = ⟨#[46]⟩ ∨ s = ⟨#[44]⟩ then 2 else 0
def T (l : List ByteArray) (i : Nat) : ByteArray := l.getD i ⟨#[]⟩
def inW (l : List ByteArray) (i : Nat) : Bool := decide (kindF (T l i) ≠ 0) || (decide (jointF (T l i) ≠ 0) && decide (0 < i) && decide (i + 1 < l.length) && decide (kindF (T l (i - 1)) = jointF (T l i)) && decide (kindF (T l (i + 1)) = jointF (T l i)))
def runs (fl : Nat → Bool) : Nat → Nat → Option Nat → List (Nat × Nat)
  | 0, _, none => []
  | 0, i, some f => [(f, i)]
  | q + 1, i, none => if fl i = true then runs fl q (i + 1) (some i) else runs fl q (i + 1) none
  | q + 1, i, some f => if fl i = true then runs fl q (i + 1) (some f) else (f, i) :: runs fl q (i + 1) none
def Apart (N : Nat) : Nat → List (Nat × Nat) → Prop
  | _, [] => True
  | n, p :: r => n ≤ p.1 ∧ p.1 < p.2 ∧ p.2 ≤ N ∧ Apart N (p.2 + 1) r
theorem Apart.low {N : Nat} {n m : Nat} {l : List (Nat × Nat)} (h : Apart N n l) (hm : m ≤ n) : Apart N m l := by
  cases l with
  | nil => trivial
  | cons p r => exact ⟨Nat.le_trans hm h.1, h.2⟩
theorem runs_apart (fl : Nat → Bool) : ∀ (q i : Nat), Apart (i + q) i (runs fl q i none) ∧ ∀ f, f < i → Apart (i + q) f (runs fl q i (some f))
  | 0, i => ⟨trivial, fun f h => ⟨Nat.le_refl _, h, Nat.le_refl _, trivial⟩⟩
  | q + 1, i => by
    have ih := runs_apart fl q (i + 1); rw [show i + 1 + q = i + (q + 1) by omega] at ih; constructor
    · rw [runs]; split
      · exact ih.2 i (Nat.lt_succ_self _)
      · exact ih.1.low (Nat.le_succ _)
    · intro f hf; rw [runs]; split
      · exact ih.2 f (Nat.lt_succ_of_lt hf)
      · exact ⟨Nat.le_refl _, hf, by omega, ih.1⟩
theorem runs_congr {fl fl' : Nat → Bool} : ∀ (q i : Nat) (st : Option Nat), (∀ j, i ≤ j → j < i + q → fl j = fl' j) → runs fl q i st = runs fl' q i st
  | 0, i, none, _ => rfl
  | 0, i, some f, _ => rfl
  | q + 1, i, st, h => by
    have h0 := h i (Nat.le_refl _) (by omega); have ih := fun st => runs_congr q (i + 1) st (fun j h1 h2 => h j (by omega) (by omega))
    cases st with
    | none => rw [runs, runs, h0, ih, ih]
    | some f => rw [runs, runs, h0, ih, ih]
theorem runs_split (fl : Nat → Bool) (q2 : Nat) : ∀ (q1 i : Nat) (st : Option Nat), fl (i + q1) = false → runs fl (q1 + (q2 + 1)) i st = runs fl q1 i st ++ runs fl q2 (i + q1 + 1) none
  | 0, i, none, h => by
    rw [Nat.add_zero] at h; rw [Nat.zero_add]; (show (if fl i = true then runs fl q2 (i + 1) (some i) else runs fl q2 (i + 1) none) = _); rw [h, if_neg (by decide)]
    rfl
  | 0, i, some f, h => by
    rw [Nat.add_zero] at h; rw [Nat.zero_add]; (show (if fl i = true then runs fl q2 (i + 1) (some f) else (f, i) :: runs fl q2 (i + 1) none) = _); rw [h, if_neg (by decide)]
    rfl
  | q1 + 1, i, st, h => by
    (have ih := fun st => runs_split fl q2 q1 (i + 1) st (by rw [show i + 1 + q1 = i + (q1 + 1) by omega]; exact h)); rw [show i + 1 + q1 + 1 = i + (q1 + 1) + 1 by omega] at ih; rw [show q1 + 1 + (q2 + 1) = (q1 + (q2 + 1)) + 1 by omega]
    cases st with
    | none =>
      rw [runs, runs, ih, ih]; split <;> rfl
    | some f =>
      rw [runs, runs, ih, ih]; split <;> rfl
theorem runs_shift (fl : Nat → Bool) (s : Nat) : ∀ (q i : Nat) (st : Option Nat), runs fl q (i + s) (st.map (· + s)) = (runs (fun j => fl (j + s)) q i st).map (fun p => (p.1 + s, p.2 + s))
  | 0, i, none => rfl
  | 0, i, some f => rfl
  | q + 1, i, none => by
    (have ih := fun st => runs_shift fl s q (i + 1) st); rw [show i + 1 + s = i + s + 1 by omega] at ih; (show runs fl (q + 1) (i + s) none = _); rw [runs, runs]; split
    · exact ih (some i)
    · exact ih none
  | q + 1, i, some f => by
    (have ih := fun st => runs_shift fl s q (i + 1) st); rw [show i + 1 + s = i + s + 1 by omega] at ih; (show runs fl (q + 1) (i + s) (some (f + s)) = _); rw [runs, runs]; split
    · exact ih (some f)
    · rw [List.map_cons, ← ih none]
      rfl
theorem runs_len (fl : Nat → Bool) : ∀ (q i : Nat), (runs fl q i none).length ≤ q ∧ ∀ f, (runs fl q i (some f)).length ≤ q + 1
  | 0, i => ⟨Nat.le_refl _, fun f => Nat.le_refl _⟩
  | q + 1, i => by
    have ih := runs_len fl q (i + 1); constructor
    · rw [runs]; split
      · exact ih.2 i
      · exact Nat.le_succ_of_le ih.1
    · intro f; rw [runs]; split
      · exact Nat.le_succ_of_le (ih.2 f)
      · rw [List.length_cons]; omega
def runsT (l : List ByteArray) : List (Nat × Nat) := runs (inW l) l.length 0 none
def catR (l : List ByteArray) (f t : Nat) : ByteArray := catB ((l.take t).drop f)
def keyR (l : List ByteArray) (f t : Nat) : ByteArray := keyS (bytesOf (catR l f t))
theorem runsT_apart (l : List ByteArray) : Apart l.length 0 (runsT l) := by
  have h := (runs_apart (inW l) l.length 0).1; rw [Nat.zero_add] at h; exact h
theorem Apart.mem {N : Nat} : ∀ {l : List (Nat × Nat)} {n : Nat}, Apart N n l → ∀ p ∈ l, n ≤ p.1 ∧ p.1 < p.2 ∧ p.2 ≤ N
  | [], _, _, p, hp => by cases hp
  | q :: r, n, h, p, hp => by
    rcases List.mem_cons.1 hp with rfl | hp
    · exact ⟨h.1, h.2.1, h.2.2.1⟩
    · have := Apart.mem h.2.2.2 p hp; exact ⟨by have := h.1; have := h.2.1; omega, this.2⟩
theorem Apart.next {N : Nat} : ∀ {l : List (Nat × Nat)} {n : Nat}, Apart N n l → ∀ i (h : i + 1 < l.length), l[i].2 < l[i + 1].1
  | [], _, _, i, h => by simp at h
  | [p], _, _, i, h => by simp at h
  | p :: q :: r, n, hh, 0, h => hh.2.2.2.1
  | p :: q :: r, n, hh, i + 1, h => Apart.next hh.2.2.2 i (by simpa using h)
theorem T_left (a c : List ByteArray) (i : Nat) (h : i < a.length) : T (a ++ c) i = T a i := by unfold T; simp [List.getD_eq_getElem?_getD, List.getElem?_append_left h]
theorem T_right (a c : List ByteArray) (i : Nat) : T (a ++ c) (i + a.length) = T c i := by unfold T; rw [List.getD_eq_getElem?_getD, List.getElem?_append_right (by omega), Nat.add_sub_cancel, ← List.getD_eq_getElem?_getD]
theorem inW_left (a c : List ByteArray) (s : ByteArray) (hs : kindF s = 0) (i : Nat) (h : i < a.length) : inW (a ++ s :: c) i = inW a i := by
  unfold inW; rw [T_left a _ i h, T_left a _ (i - 1) (by omega)]; by_cases h1 : i + 1 < a.length
  · rw [T_left a _ (i + 1) h1, decide_eq_true (show i + 1 < (a ++ s :: c).length by rw [List.length_append]; omega), decide_eq_true h1]
  · (have e : i + 1 = 0 + a.length := by omega); (have e2 : T (a ++ s :: c) (i + 1) = s := by rw [e, T_right]; rfl); rw [e2, hs, decide_eq_false h1]; by_cases hj : jointF (T a i) = 0
    · rw [hj]; simp
    · rw [decide_eq_false (show ¬ ((0 : Int) = jointF (T a i)) from fun e => hj e.symm)]; simp
theorem inW_mid (a c : List ByteArray) (s : ByteArray) (hs : kindF s = 0) (hj : jointF s = 0) : inW (a ++ s :: c) a.length = false := by
  unfold inW; (have e2 : T (a ++ s :: c) a.length = s := by have := T_right a (s :: c) 0; rw [Nat.zero_add] at this; exact this); rw [e2, hs, hj]
  rfl
theorem inW_right (a c : List ByteArray) (s : ByteArray) (hs : kindF s = 0) (i : Nat) (h : i < c.length) : inW (a ++ s :: c) (i + (a.length + 1)) = inW c i := by
  (have e : a ++ s :: c = (a ++ [s]) ++ c := by simp); (have el : (a ++ [s]).length = a.length + 1 := by simp); (have er := fun k => T_right (a ++ [s]) c k); rw [el] at er; rw [e]; unfold inW; rw [er, show i + (a.length + 1) + 1 = (i + 1) + (a.length + 1) by omega, er]; (have hlen : decide (i + 1 + (a.length + 1) < ((a ++ [s]) ++ c).length) = decide (i + 1 < c.length) := by rw [decide_eq_decide, List.length_append, el]; omega); rw [hlen, decide_eq_true (show 0 < i + (a.length + 1) by omega)]
  cases i with
  | zero =>
    have e2 : T ((a ++ [s]) ++ c) (0 + (a.length + 1) - 1) = s := by
      rw [show 0 + (a.length + 1) - 1 = 0 + a.length by omega, List.append_assoc, T_right]
      rfl
    rw [e2, hs]; by_cases hj : jointF (T c 0) = 0
    · rw [hj]; simp
    · rw [decide_eq_false (show ¬ ((0 : Int) = jointF (T c 0)) from fun e => hj e.symm)]; simp
  | succ i =>
    rw [show i + 1 + (a.length + 1) - 1 = i + (a.length + 1) by omega, er, show i + 1 - 1 = i by omega, decide_eq_true (show 0 < i + 1 by omega)]
theorem runsT_beside (a c : List ByteArray) (s : ByteArray) (hs : kindF s = 0) (hj : jointF s = 0) :
    runsT (a ++ s :: c) = runsT a ++ (runsT c).map (fun p => (p.1 + (a.length + 1), p.2 + (a.length + 1))) := by
  unfold runsT; rw [List.length_append, List.length_cons, runs_split (inW (a ++ s :: c)) c.length a.length 0 none (by rw [Nat.zero_add]; exact inW_mid a c s hs hj)]; congr 1
  · exact runs_congr _ _ _ fun j h1 h2 => inW_left a c s hs j (by omega)
  · have h := runs_shift (inW (a ++ s :: c)) (a.length + 1) c.length 0 none; rw [show 0 + a.length + 1 = 0 + (a.length + 1) by omega]; refine Eq.trans h ?_; congr 1; exact runs_congr _ _ _ fun j h1 h2 => inW_right a c s hs j (by omega)
theorem catR_left (a c : List ByteArray) (f t : Nat) (h : t ≤ a.length) : catR (a ++ c) f t = catR a f t := by
  unfold catR; rw [List.take_append_of_le_length h]
theorem catR_right (a c : List ByteArray) (f t : Nat) : catR (a ++ c) (f + a.length) (t + a.length) = catR c f t := by
  unfold catR; rw [Nat.add_comm t, List.take_length_add_append, Nat.add_comm f, List.drop_length_add_append]
def FillO (b : List Int) : Nat → Bool → List SG → Prop
  | a, _, [] => a ≤ b.length
  | a, o, s :: l => s.f1 = a ∧ ∃ (e : Nat) (rs : List Int), s.f2 = e ∧ a < e ∧ e ≤ b.length ∧ s.f0 = txt rs ∧ Inv b a e rs ∧ (o = true → ∃ x u, rs = x :: u ∧ opn x = true) ∧ FillO b e true l
theorem fillO_cut (b : List Int) : ∀ (t : List SP) (rs : List Int) (a e : Nat) (o : Bool), a < e → e ≤ b.length → Inv b a e rs → (o = true → ∃ x u, rs = x :: u ∧ opn x = true) → Bk.ful (b.drop e) (e : Int) = t → FillO b a o (cutR t rs a e)
  | [], rs, a, e, o, hae, hel, hi, ho, ht => by
    rw [cutR]; exact ⟨rfl, e, rs, rfl, hae, hel, rfl, hi, ho, hel⟩
  | p :: t, rs, a, e, o, hae, hel, hi, ho, ht => by
    cases hd : b.drop e with
    | nil => rw [hd, Bk.ful_nil] at ht; cases ht
    | cons c u =>
      rw [hd, Bk.ful_cons] at ht; have hw := Ux.one1_width c u; (have hul : (b.drop e).length = 1 + u.length := by rw [hd, List.length_cons]; omega); rw [List.length_drop] at hul; have hst := inv_step hi c u hd; have hst0 := inv_step (inv_self b e) c u hd; obtain ⟨w, hwe⟩ : ∃ w : Nat, (Ux.one1 c u).2.1 = (w : Int) := ⟨(Ux.one1 c u).2.1.toNat, by omega⟩; rw [hwe, Int.toNat_natCast] at hst hst0; have ht1 := (List.cons.inj ht).1; have ht2 := (List.cons.inj ht).2; rw [hwe, Int.toNat_natCast, ← hd, List.drop_drop] at ht2; (have p0 : p.f0 = (Ux.one1 c u).1 := by rw [← ht1]); (have p1 : p.f1 = (e : Int) := by rw [← ht1]); (have p2 : p.f2 = (w : Int) := by rw [← ht1, hwe]); (have e2 : p.f1 + p.f2 = ((e + w : Nat) : Int) := by rw [p1, p2]; push_cast; rfl); rw [cutR, e2, p1]; rw [← p0] at hst hst0; (have ih := fun rs a o hae hi ho => fillO_cut b t rs a (e + w) o hae (by omega) hi ho (by rw [← ht2]; push_cast; rfl)); split
      · rename_i hop; exact ⟨rfl, e, rs, rfl, hae, hel, rfl, hi, ho, ih [p.f0] e true (by omega) hst0 (fun _ => ⟨_, [], rfl, hop⟩)⟩
      · refine ih (rs ++ [p.f0]) a o (by omega) hst (fun h => ?_); obtain ⟨x, v, rfl, hx⟩ := ho h; exact ⟨x, v ++ [p.f0], rfl, hx⟩
theorem fillO_all (b : List Int) : FillO b 0 false (cutS (full b)) := by
  cases b with
  | nil => rw [Bk.full_ful, Bk.ful_nil]; exact Nat.le_refl _
  | cons c t =>
    have hw := Ux.one1_width c t; rw [Bk.full_ful, Bk.ful_cons, cutS]; obtain ⟨w, hwe⟩ : ∃ w : Nat, (Ux.one1 c t).2.1 = (w : Int) := ⟨(Ux.one1 c t).2.1.toNat, by omega⟩; have hst := inv_step (inv_self (c :: t) 0) c t (by simp); rw [hwe, Int.toNat_natCast] at hst; simp only [hwe, Int.toNat_natCast, List.nil_append, Nat.zero_add, Int.zero_add] at hst ⊢; exact fillO_cut (c :: t) _ [(Ux.one1 c t).1] 0 w false (by omega) (by simp only [List.length_cons]; omega) hst (fun h => by cases h) rfl
theorem FillO.take {b : List Int} : ∀ {l : List SG} {a : Nat} {o : Bool} (k : Nat), FillO b a o l → FillO b a o (l.take k)
  | [], a, o, k, h => by rw [List.take_nil]; exact h
  | s :: l, a, o, 0, h => by
    obtain ⟨-, e, rs, -, h2, h3, -⟩ := h; (show a ≤ b.length); omega
  | s :: l, a, o, k + 1, h => by
    obtain ⟨h1, e, rs, h2, h3, h4, h5, h6, h7, h8⟩ := h; exact ⟨h1, e, rs, h2, h3, h4, h5, h6, h7, h8.take k⟩
theorem inv_app {b : List Int} {a e d : Nat} {r s : List Int} (h : Inv b a e r) (h2 : Inv b e d s) (hed : e ≤ d) : Inv b a d (r ++ s) := by
  intro m hm; rw [h m (by omega), h2 m hm, List.append_assoc]
theorem FillO.range {b : List Int} : ∀ {l : List SG} {a : Nat} {o : Bool}, FillO b a o l → ∀ m (hm : m < l.length), ∃ (e : Nat) (rs : List Int), l[m].f2 = e ∧ a < e ∧ e ≤ b.length ∧ catB ((l.take (m + 1)).map (·.f0)) = txt rs ∧ Inv b a e rs ∧ (o = true → ∃ x u, rs = x :: u ∧ opn x = true) ∧ FillO b e true (l.drop (m + 1))
  | [], a, o, h, m, hm => by simp at hm
  | s :: l, a, o, h, 0, hm => by
    obtain ⟨h1, e, rs, h2, h3, h4, h5, h6, h7, h8⟩ := h; refine ⟨e, rs, h2, h3, h4, ?_, h6, h7, h8⟩; rw [← h5]; refine ba_ext ?_; (show (s.f0 ++ (⟨#[]⟩ : ByteArray)).data.toList = _); rw [ba_app]; simp
  | s :: l, a, o, h, m + 1, hm => by
    obtain ⟨h1, e, rs, h2, h3, h4, h5, h6, h7, h8⟩ := h; obtain ⟨e2, rs2, q2, q3, q4, q5, q6, q7, q8⟩ := FillO.range h8 m (by simpa using hm); obtain ⟨x, u, rfl, hx⟩ := q7 rfl; refine ⟨e2, rs ++ x :: u, q2, by omega, q4, ?_, inv_app h6 q6 (by omega), fun ho => ?_, q8⟩
    · rw [txt_app rs (x :: u) x u rfl hx, ← q5, ← h5]
      rfl
    · obtain ⟨y, v, rfl, hy⟩ := h7 ho; exact ⟨y, v ++ x :: u, rfl, hy⟩
theorem FillO.at {b : List Int} : ∀ {l : List SG} {a : Nat} {o : Bool}, FillO b a o l → ∀ m (hm : m < l.length), ∃ (c : Nat) (p : Bool), l[m].f1 = c ∧ a ≤ c ∧ FillO b c p (l.drop m)
  | [], a, o, h, m, hm => by simp at hm
  | s :: l, a, o, h, 0, hm => ⟨a, o, h.1, Nat.le_refl _, h⟩
  | s :: l, a, o, h, m + 1, hm => by
    obtain ⟨h1, e, rs, h2, h3, h4, h5, h6, h7, h8⟩ := h; obtain ⟨c, p, q1, q2, q3⟩ := FillO.at h8 m (by simpa using hm); exact ⟨c, p, q1, by omega, q3⟩
theorem run_raw {b : List Int} {l : List SG} (h : FillO b 0 false l) (f t : Nat) (hft : f < t) (ht : t ≤ l.length) :
    ∃ (s e : Nat), l[f].f1 = s ∧ (l[t - 1]'(by omega)).f2 = e ∧ s < e ∧ e ≤ b.length ∧ catR (l.map (·.f0)) f t = txt (rns ((b.take e).drop s)) := by
  obtain ⟨c, p, q1, q2, q3⟩ := h.at f (by omega); obtain ⟨e, rs, p1, p2, p3, p4, p5, p6, p7⟩ := q3.range (t - f - 1) (by rw [List.length_drop]; omega); refine ⟨c, e, q1, ?_, p2, p3, ?_⟩
  · rw [List.getElem_drop] at p1; (have : f + (t - f - 1) = t - 1 := by omega); simp only [this] at p1; exact p1
  · rw [rns_inv p5, ← p4]; unfold catR; rw [← List.map_take, ← List.map_drop, List.drop_take]; congr 3; omega
theorem keyR_raw {b : List Int} (hB : Bytes b) {l : List SG} (h : FillO b 0 false l) (f t : Nat) (hft : f < t) (ht : t ≤ l.length) :
    ∃ (s e : Nat), l[f].f1 = s ∧ (l[t - 1]'(by omega)).f2 = e ∧ s < e ∧ e ≤ b.length ∧ keyR (l.map (·.f0)) f t = keyS ((b.take e).drop s) ∧ 0 < (keyR (l.map (·.f0)) f t).size := by
  obtain ⟨s, e, h1, h2, h3, h4, h5⟩ := run_raw h f t hft ht; (have hBs : Bytes ((b.take e).drop s) := fun x hx => hB x (List.mem_of_mem_take (List.mem_of_mem_drop hx))); (have hk : keyR (l.map (·.f0)) f t = keyS ((b.take e).drop s) := by unfold keyR; rw [h5]; exact keyS_txt _ hBs); refine ⟨s, e, h1, h2, h3, h4, hk, ?_⟩; rw [hk]; exact keyS_pos _ (by rw [List.length_drop, List.length_take]; omega)
end Go.Proofs.YthffpkdadffinaaDoor.Wb
namespace Go.Proofs.YthffpkdadffinaaDoor.Vtf
set_option linter.unusedVariables false
set_option linter.unusedSimpArgs false
open Go.Proofs.YthffpkdadffinaaDoor.Vef (foldU allB allB_at fold_out)
open Go.RowKit YthffpkdadffinaaDoorW.PrintWords Hp X
open Go.Proofs.YthffpkdadffinaaDoor.Vin (inB in_some)
abbrev T3 : Nat := 21
theorem InP (w : World) (r lo hi : Int) : Calls Tryd.prog 88 #[.int .i32 r, .int .i32 lo, .int .i32 hi] w fun e w' => e = .returned (.bool (inB r lo hi)) ∧ Below w.heap.size w w' :=
  (tremaref02_in.calls r lo hi _ w (in_some r lo hi)).mono fun _ _ ⟨h1, h2⟩ => ⟨h1, h2.below⟩
def q1 (r : Int) : Bool := inB r 65 90 || inB r 192 214 || inB r 216 222 || inB r 913 929 || inB r 931 937 || inB r 1040 1071
def q3 (r : Int) : Bool := (Int.tmod r 2 == 0) && (inB r 256 302 || inB r 306 310 || inB r 330 374 || inB r 7680 7828)
def q4 (r : Int) : Bool := (Int.tmod r 2 == 1) && (inB r 313 327 || inB r 377 381)
end Go.Proofs.YthffpkdadffinaaDoor.Vtf
namespace Go.Proofs.YthffpkdadffinaaDoor.X
open Go.RowKit YthffpkdadffinaaDoorW.PrintWords YthffpkdadffinaaDoorW.PrintLast YthffpkdadffinaaDoorW.PrintMore
attribute [local go_sem] max2_int min2_int max_two min_two max_three min_three max_four min_four   
set_option linter.unusedVariables false
set_option linter.unusedSimpArgs false
def words_Key.l0 : Nat → List Int → List Int → Int → Int → Option (ByteArray)
 | 0, _, _, _, _ => none
 | k + 1, x3, x9, x10, x11 => if x11 < x10 then (if 0 ≤ x11 then (if x11 < (x9.length : Int) then ((ucd_Fold.f k (rd x9 x11)).bind fun t358 => (if x3.length + t358.length < 35184372088832 then (words_Key.l0 k (x3 ++ t358) x9 x10 (wrap64 (x11 + 1))) else (none))) else (none)) else (none)) else ((norm_Normal.f k x3).bind fun t364 => ((utf_Encode.f k t364).bind fun t367 => (some (strOfNums t367))))
def words_Key.f (k : Nat) (l0 : List Int) : Option (ByteArray) := (norm_Runes.f (strOfNums l0)).bind fun t351 => ((norm_Normal.f k t351).bind fun t354 => (words_Key.l0 k ([] : List Int) t354 (t354.length : Int) 0))
theorem words_Key.mono_l : ∀ k, (∀ y0 y1 y2 y3, LeO (words_Key.l0 k y0 y1 y2 y3) (words_Key.l0 (k + 1) y0 y1 y2 y3))
 | 0 => fun _ _ _ _ r h => by simp [words_Key.l0] at h
 | k + 1 => by
  have ih0 := words_Key.mono_l k
  ·intro y0 y1 y2 y3; unfold words_Key.l0; repeat' first | (with_reducible exact ih0 _ _ _ _) | (with_reducible exact norm_Normal.mono _ _) | (with_reducible exact ucd_Fold.mono _ _) | (with_reducible exact utf_Encode.mono _ _) | (with_reducible exact LeO.refl _) | (with_reducible exact LeO.none _) | (with_reducible refine LeO.ite ?_ ?_) | (with_reducible refine LeO.bind ?_ (fun _ => ?_)) | exact ih0 _ _ _ _ | exact norm_Normal.mono _ _ | exact ucd_Fold.mono _ _ | exact utf_Encode.mono _ _ | exact LeO.none _ | refine LeO.ite ?_ ?_ | refine LeO.bind ?_ (fun _ => ?_)
theorem words_Key.mono : ∀ a0 k, LeO (words_Key.f k a0) (words_Key.f (k + 1) a0) := by
 intro a0 k; have ih0 := words_Key.mono_l k; unfold words_Key.f; repeat' first | (with_reducible exact ih0 _ _ _ _) | (with_reducible exact norm_Normal.mono _ _) | (with_reducible exact ucd_Fold.mono _ _) | (with_reducible exact utf_Encode.mono _ _) | (with_reducible exact LeO.refl _) | (with_reducible exact LeO.none _) | (with_reducible refine LeO.ite ?_ ?_) | (with_reducible refine LeO.bind ?_ (fun _ => ?_)) | exact ih0 _ _ _ _ | exact norm_Normal.mono _ _ | exact ucd_Fold.mono _ _ | exact utf_Encode.mono _ _ | exact LeO.none _ | refine LeO.ite ?_ ?_ | refine LeO.bind ?_ (fun _ => ?_)
set_option maxHeartbeats 8000000 in
set_option maxRecDepth 100000 in
theorem words_Key.calls (k : Nat) (A0 : Option Addr) (c0 : Nat) (l0 : List Int) (r : ByteArray) (w : World) (hr0 : Kd.C (Kd.int .u8) w A0 l0.length l0) (hc0 : l0.length ≤ c0) (h : words_Key.f k l0 = some r) (hG0 : Va.G w) :
  Calls Tryd.prog 32 #[.slice A0 l0.length c0] w fun e w' => e = .returned (.string r) ∧ Below w.heap.size w w' := by
 have HG := Aside0.mk hG0; clear hG0; have HR0 := Aside0.mk hr0; have HC0 := Aside0.mk hc0; clear hr0 hc0; have HB := Aside0.mk (Below.refl w.heap.size w); have H : ((norm_Runes.f (strOfNums l0)).bind fun t351 => ((norm_Normal.f k t351).bind fun t354 => (words_Key.l0 k ([] : List Int) t354 (t354.length : Int) 0))) = some r := h; clear h; replace H := Option.bind_eq_some_iff.mp H; obtain ⟨t351, A20, H⟩ := H; (try dsimp only at H); have A2 := Aside0.mk A20; clear A20; replace H := Option.bind_eq_some_iff.mp H; obtain ⟨t354, A30, H⟩ := H; (try dsimp only at H); have A3 := Aside0.mk A30; clear A30; have H' := Aside0.mk H; clear H; have hcv4 := Kd.C_string (P := Tryd.prog) (A := A0) (c := c0) Tryd.underlying23 Tryd.underlying5 Tryd.underlying9 HR0.out; go_enter Tryd.func32, Tryd.ntmps32; go_wp2_with (first | ((with_reducible refine gate_callee (f := 72) rfl ?_); refine goesL_ (some 8) rfl rfl Tryd.func72 (by kernel_rfl) rfl #[.string (strOfNums l0)] rfl (by (try simp only [List.map_toArray, List.map_cons, List.map_nil]); first | done | rfl | (simp only [List.length_drop, List.length_take]; rfl)) ?_; (with_reducible refine (norm_Runes.calls (strOfNums l0) t351 _ A2.out).mono ?_); rintro e w5 ⟨v352, rfl, ho0, hb⟩; refine ⟨_, rfl, ?_⟩; have n0_ := Aside0.mk (Kd.R_lower ho0 (below_size (by repeat (first | (with_reducible first | exact HB.out | apply below_alloc | apply pw_below_drewN | apply below_drew1) | exact HB.out)))); have n1_ := Aside0.mk (below_step (by repeat (first | (with_reducible first | exact HB.out | apply below_alloc | apply pw_below_drewN | apply below_drew1) | exact HB.out)) hb); clear HB; have HO353 := n0_; have HB := n1_; clear n0_ n1_; (try clear hb); (try clear hb2); (try clear hk); (try clear hi); (try clear ho0); obtain ⟨Ao6, co6, eo6⟩ := Kd.R_slice HO353.out; subst eo6) | ((with_reducible refine gate_callee (f := 71) rfl ?_); refine goesL_ (some 9) rfl rfl Tryd.func71 (by kernel_rfl) rfl #[.slice Ao6 t351.length co6] rfl (by (try simp only [List.map_toArray, List.map_cons, List.map_nil]); first | done | rfl | (simp only [List.length_drop, List.length_take]; rfl)) ?_; (with_reducible refine (norm_Normal.calls k _ _ t351 t354 _ ?side1 ?side2 A3.out (by first | exact HG.out | exact Va.G.below HG.out (by repeat (first | (with_reducible first | exact HB.out | apply below_alloc | apply pw_below_drewN | apply below_drew1) | exact HB.out)))).mono ?_); (case side1 => repeat (first | exact (Kd.R_reads' HO353.out).2.2 | (with_reducible refine Kd.C_alloc ?_ _) | (with_reducible refine Kd.C_drewN ?_ _) | (with_reducible refine Kd.C_drew ?_))); (case side2 => exact (Kd.R_reads' HO353.out).2.1); rintro e w7 ⟨v355, rfl, ho0, hb⟩; refine ⟨_, rfl, ?_⟩; have n0_ := Aside0.mk (Kd.R_elder' (by (with_reducible repeat (first | apply Kd.R_alloc | apply Kd.R_drewN | apply Kd.R_drew)); exact HO353.out) (Kd.R_base ho0) hb); have n1_ := Aside0.mk (Kd.R_lower (Kd.R_new' ho0 (Kd.R_lt (by (with_reducible repeat (first | apply Kd.R_alloc | apply Kd.R_drewN | apply Kd.R_drew)); exact HO353.out))) (below_size (by repeat (first | (with_reducible first | exact HB.out | apply below_alloc | apply pw_below_drewN | apply below_drew1) | exact HB.out)))); have n2_ := Aside0.mk (below_step (by repeat (first | (with_reducible first | exact HB.out | apply below_alloc | apply pw_below_drewN | apply below_drew1) | exact HB.out)) hb); clear HO353; clear HB; have HO353 := n0_; have HO356 := n1_; have HB := n2_; clear n0_ n1_ n2_; (try clear hb); (try clear hb2); (try clear hk); (try clear hi); (try clear ho0); obtain ⟨Ao8, co8, eo8⟩ := Kd.R_slice HO356.out; subst eo8)); go_loopg [3, 11] k (fun kq v3 v11 w' => ∃ (x3_1 : List Int) (x11_1 : Int), v11 = .int .i64 x11_1 ∧ Aside0 (words_Key.l0 kq x3_1 t354 (t354.length : Int) x11_1 = some r) ∧ Aside0 (kq ≤ k) ∧ Aside0 (Kd.R (Kd.int .i32) 21 w' w.heap.size (fun k_ => some k_ ≠ ((.slice Ao8 t354.length co8) : Value).ownBlock) v3 x3_1) ∧ Aside0 (Kd.R (Kd.int .i32) 21 w' w.heap.size (fun k_ => some k_ ≠ (v3 : Value).ownBlock) (.slice Ao8 t354.length co8) t354) ∧ Aside0 (Below w.heap.size w w'))
 case atStart => exact ⟨(([] : List Int)), (0), (by first | rfl | (simp; done) | (simp [*]; done)), H', ⟨Nat.le_refl _⟩, ⟨by first | exact Kd.R_nil _ _ _ _ _ | exact Kd.N_nil _ _ _ _ _ | exact Kd.V_nil _ _ _ _ _ | exact Kd.Q_nil _ _ _ _ _ | exact Kd.S_nil _ _ _ _ _⟩, ⟨by (with_reducible repeat (first | apply Kd.R_alloc | apply Kd.R_drewN | apply Kd.R_drew)); exact Kd.R_mono HO356.out (fun _ hk => (by simp [Value.ownBlock]))⟩, ⟨by repeat (first | (with_reducible first | exact HB.out | apply below_alloc | apply pw_below_drewN | apply below_drew1) | exact HB.out)⟩⟩
 case round =>
  clear H'; (try clear p2); (try clear c3); (try clear hcv4); (try clear c7); obtain ⟨x3_1, x11_1, rfl, HA, HK1, HO_3, HO_9, HB⟩ := hrel
  cases gk with
  | zero => exact absurd HA.out (by simp [words_Key.l0])
  | succ k1 =>
   have H := HA.out; clear HA; simp only [words_Key.l0] at H; by_cases c9 : x11_1 < (t354.length : Int)
   ·rw [if_pos c9] at H; have c9b0 : decide (x11_1 < (t354.length : Int)) = true := decide_eq_true c9; clear c9; by_cases c10 : 0 ≤ x11_1
    ·rw [if_pos c10] at H; have c10b0 : decide (0 ≤ x11_1) = true := decide_eq_true c10; clear c10; by_cases c11 : x11_1 < (t354.length : Int)
     ·rw [if_pos c11] at H; have c11b0 : decide (x11_1 < (t354.length : Int)) = true := decide_eq_true c11; clear c11; replace H := Option.bind_eq_some_iff.mp H; obtain ⟨t358, A120, H⟩ := H; (try dsimp only at H); have A12 := Aside0.mk A120; clear A120; by_cases c13 : x3_1.length + t358.length < 35184372088832
      ·rw [if_pos c13] at H; have LMc13 := Aside0.mk c13; clear c13; obtain ⟨y361, hy361⟩ : ∃ y_ : List Int, y_ = (x3_1 ++ t358) := ⟨_, rfl⟩; (replace H : (words_Key.l0 k1 y361 t354 (t354.length : Int) (wrap64 (x11_1 + 1))) = some r := by first | (rw [hy361]; with_reducible exact H) | (have H2_ := (Option.bind_some _ _).symm.trans H; rw [hy361]; with_reducible exact H2_) | (have H2_ := (Option.bind_some _ _).symm.trans H; with_reducible exact H2_) | with_reducible exact H | (rw [hy361]; exact H) | exact H); have Ny361 := Aside0.mk hy361; clear hy361; have H' := Aside0.mk H; clear H; have p357 : 0 ≤ (x11_1 : Int) := of_decide_eq_true (by first | (with_reducible assumption) | assumption); have q357 : x11_1 < (t354.length : Int) := of_decide_eq_true (by first | (with_reducible assumption) | assumption); obtain ⟨ad357, e357, hx357_0⟩ := Kd.at_int (Kd.R_reads' HO_9.out).2.2 x11_1 p357 q357; cases e357; replace p357 := eq_true p357; replace q357 := eq_true q357; go_wp2_with (first | ((with_reducible refine gate_callee (f := 58) rfl ?_); refine goesL_ (some 17) rfl rfl Tryd.func58 (by kernel_rfl) rfl #[.int .i32 (rd t354 x11_1)] rfl (by (try simp only [List.map_toArray, List.map_cons, List.map_nil]); first | done | rfl | (simp only [List.length_drop, List.length_take]; rfl)) ?_; (with_reducible refine (ucd_Fold.calls k1 (rd t354 x11_1) t358 _ A12.out).mono ?_); rintro e w14 ⟨v359, rfl, ho0, hb⟩; refine ⟨_, rfl, ?_⟩; have n0_ := Aside0.mk (Kd.R_elder' (by (with_reducible repeat (first | apply Kd.R_alloc | apply Kd.R_drewN | apply Kd.R_drew)); exact HO_3.out) (Kd.R_base ho0) hb); have n1_ := Aside0.mk (Kd.R_elder' (by (with_reducible repeat (first | apply Kd.R_alloc | apply Kd.R_drewN | apply Kd.R_drew)); exact HO_9.out) (Kd.R_base ho0) hb); have n2_ := Aside0.mk (Kd.R_lower (Kd.R_new' (Kd.R_new' ho0 (Kd.R_lt (by (with_reducible repeat (first | apply Kd.R_alloc | apply Kd.R_drewN | apply Kd.R_drew)); exact HO_3.out))) (Kd.R_lt (by (with_reducible repeat (first | apply Kd.R_alloc | apply Kd.R_drewN | apply Kd.R_drew)); exact HO_9.out))) (below_size (by repeat (first | (with_reducible first | exact HB.out | apply below_alloc | apply pw_below_drewN | apply below_drew1) | exact HB.out)))); have n3_ := Aside0.mk (below_step (by repeat (first | (with_reducible first | exact HB.out | apply below_alloc | apply pw_below_drewN | apply below_drew1) | exact HB.out)) hb); clear HO_3; clear HO_9; clear HB; have HO_3 := n0_; have HO_9 := n1_; have HO360 := n2_; have HB := n3_; clear n0_ n1_ n2_ n3_; (try clear hb); (try clear hb2); (try clear hk); (try clear hi); (try clear ho0); obtain ⟨Ao16, co16, eo16⟩ := Kd.R_slice HO360.out; subst eo16) | ((with_reducible refine gate_builtin (b := .append) (xs := #[.tmp 15, .tmp 17]) rfl ?_); at_builtin; refine Kd.R_append_rows (Kd.int .i32) (w0 := w) w.heap.size rfl (.tmp 15) (.tmp 17) 42 21 (.int .i32 0) 4 rfl Tryd.underlying42 info21 rfl (by decide) (by omega) u3 x3_1 t358 _ _ _ (fun k_ => some k_ ≠ (.slice (some ad357) t354.length co8 : Value).ownBlock ∧ some k_ ≠ (.slice Ao16 t358.length co16 : Value).ownBlock) (fun _ => False) rfl rfl ?aO ?aR (fun _ _ h => h) (fun _ h => h.elim) ?aF ?aB ?aS ?aL ?_; (case aR => repeat (first | exact (Kd.R_reads' HO360.out).2.2 | (with_reducible refine Kd.C_alloc ?_ _) | (with_reducible refine Kd.C_drewN ?_ _) | (with_reducible refine Kd.C_drew ?_))); (case aB => exact (by repeat (first | (with_reducible first | exact HB.out | apply below_alloc | apply pw_below_drewN | apply below_drew1) | exact HB.out))); (case aF => exact (fun k_ hk => ⟨Kd.fresh' (Kd.R_lt (by (with_reducible repeat (first | apply Kd.R_alloc | apply Kd.R_drewN | apply Kd.R_drew)); exact HO_9.out)) k_ hk, Kd.fresh' (Kd.R_lt (by (with_reducible repeat (first | apply Kd.R_alloc | apply Kd.R_drewN | apply Kd.R_drew)); exact HO360.out)) k_ hk⟩)); (case aO => exact (by (with_reducible repeat (first | apply Kd.R_alloc | apply Kd.R_drewN | apply Kd.R_drew)); exact HO_3.out)); (case aS => exact (below_size (by repeat (first | (with_reducible first | exact HB.out | apply below_alloc | apply pw_below_drewN | apply below_drew1) | exact HB.out)))); (case aL => have := LMc13.out; omega); intro v362 w15 ho hb hg hat; rw [← Ny361.out] at ho; have n0_ := Aside0.mk (Kd.R_after (ok := (fun k_ => some k_ ≠ (.slice Ao16 t358.length co16 : Value).ownBlock)) (by (with_reducible repeat (first | apply Kd.R_alloc | apply Kd.R_drewN | apply Kd.R_drew)); exact Kd.R_mono HO_9.out (fun _ hk => ⟨hk.2, hk.1⟩)) hg hat); have n1_ := Aside0.mk (Kd.R_after (ok := (fun k_ => some k_ ≠ (.slice (some ad357) t354.length co8 : Value).ownBlock)) (by (with_reducible repeat (first | apply Kd.R_alloc | apply Kd.R_drewN | apply Kd.R_drew)); exact Kd.R_mono HO360.out (fun _ hk => ⟨hk.2, hk.1.2⟩)) hg hat); have n2_ := Aside0.mk (hb); have n3_ := Aside0.mk (ho); clear HO_9; clear HO360; clear HB; clear HO_3; have HO_9 := n0_; have HO360 := n1_; have HB := n2_; have HO363 := n3_; clear n0_ n1_ n2_ n3_; clear ho hb hg hat)); go_roundg k1
       case measure => have := HK1.out; omega
       case rel => exact ⟨(y361), (wrap64 (x11_1 + 1)), (by first | rfl | (simp; done) | (simp [*]; done)), H', ⟨by have := HK1.out; omega⟩, ⟨by (with_reducible repeat (first | apply Kd.R_alloc | apply Kd.R_drewN | apply Kd.R_drew)); exact Kd.R_mono HO363.out (fun _ hk => hk.1)⟩, ⟨by (with_reducible repeat (first | apply Kd.R_alloc | apply Kd.R_drewN | apply Kd.R_drew)); exact Kd.R_mono HO_9.out (fun _ hk => hk.2)⟩, ⟨by repeat (first | (with_reducible first | exact HB.out | apply below_alloc | apply pw_below_drewN | apply below_drew1) | exact HB.out)⟩⟩
      ·rw [if_neg c13] at H; exact absurd H (by simp)
     ·rw [if_neg c11] at H; exact absurd H (by simp)
    ·rw [if_neg c10] at H; exact absurd H (by simp)
   ·rw [if_neg c9] at H; have c9b0 : decide (x11_1 < (t354.length : Int)) = false := decide_eq_false c9; clear c9; replace H := Option.bind_eq_some_iff.mp H; obtain ⟨t364, A170, H⟩ := H; (try dsimp only at H); have A17 := Aside0.mk A170; clear A170; replace H := Option.bind_eq_some_iff.mp H; obtain ⟨t367, A180, H⟩ := H; replace H : (some (strOfNums t367)) = some r := H; have A18 := Aside0.mk A180; clear A180; obtain rfl := Option.some.inj H; obtain ⟨Ao19, co19, eo19⟩ := Kd.R_slice HO_3.out; subst eo19; go_wp2_with (first | ((with_reducible refine gate_callee (f := 71) rfl ?_); refine goesL_ (some 21) rfl rfl Tryd.func71 (by kernel_rfl) rfl #[.slice Ao19 x3_1.length co19] rfl (by (try simp only [List.map_toArray, List.map_cons, List.map_nil]); first | done | rfl | (simp only [List.length_drop, List.length_take]; rfl)) ?_; (with_reducible refine (norm_Normal.calls k1 _ _ x3_1 t364 _ ?side1 ?side2 A17.out (by first | exact HG.out | exact Va.G.below HG.out (by repeat (first | (with_reducible first | exact HB.out | apply below_alloc | apply pw_below_drewN | apply below_drew1) | exact HB.out)))).mono ?_); (case side1 => repeat (first | exact (Kd.R_reads' HO_3.out).2.2 | (with_reducible refine Kd.C_alloc ?_ _) | (with_reducible refine Kd.C_drewN ?_ _) | (with_reducible refine Kd.C_drew ?_))); (case side2 => exact (Kd.R_reads' HO_3.out).2.1); rintro e w20 ⟨v365, rfl, ho0, hb⟩; refine ⟨_, rfl, ?_⟩; have n0_ := Aside0.mk (Kd.R_elder' (by (with_reducible repeat (first | apply Kd.R_alloc | apply Kd.R_drewN | apply Kd.R_drew)); exact HO_3.out) (Kd.R_base ho0) hb); have n1_ := Aside0.mk (Kd.R_elder' (by (with_reducible repeat (first | apply Kd.R_alloc | apply Kd.R_drewN | apply Kd.R_drew)); exact HO_9.out) (Kd.R_base ho0) hb); have n2_ := Aside0.mk (Kd.R_lower (Kd.R_new' (Kd.R_new' ho0 (Kd.R_lt (by (with_reducible repeat (first | apply Kd.R_alloc | apply Kd.R_drewN | apply Kd.R_drew)); exact HO_3.out))) (Kd.R_lt (by (with_reducible repeat (first | apply Kd.R_alloc | apply Kd.R_drewN | apply Kd.R_drew)); exact HO_9.out))) (below_size (by repeat (first | (with_reducible first | exact HB.out | apply below_alloc | apply pw_below_drewN | apply below_drew1) | exact HB.out)))); have n3_ := Aside0.mk (below_step (by repeat (first | (with_reducible first | exact HB.out | apply below_alloc | apply pw_below_drewN | apply below_drew1) | exact HB.out)) hb); clear HO_3; clear HO_9; clear HB; have HO_3 := n0_; have HO_9 := n1_; have HO366 := n2_; have HB := n3_; clear n0_ n1_ n2_ n3_; (try clear hb); (try clear hb2); (try clear hk); (try clear hi); (try clear ho0); obtain ⟨Ao21, co21, eo21⟩ := Kd.R_slice HO366.out; subst eo21) | ((with_reducible refine gate_callee (f := 73) rfl ?_); refine goesL_ (some 22) rfl rfl Tryd.func73 (by kernel_rfl) rfl #[.slice Ao21 t364.length co21] rfl (by (try simp only [List.map_toArray, List.map_cons, List.map_nil]); first | done | rfl | (simp only [List.length_drop, List.length_take]; rfl)) ?_; (with_reducible refine (utf_Encode.calls k1 _ _ t364 t367 _ ?side1 ?side2 A18.out).mono ?_); (case side1 => repeat (first | exact (Kd.R_reads' HO366.out).2.2 | (with_reducible refine Kd.C_alloc ?_ _) | (with_reducible refine Kd.C_drewN ?_ _) | (with_reducible refine Kd.C_drew ?_))); (case side2 => exact (Kd.R_reads' HO366.out).2.1); rintro e w22 ⟨v368, rfl, ho0, hb⟩; refine ⟨_, rfl, ?_⟩; have n0_ := Aside0.mk (Kd.R_below (by (with_reducible repeat (first | apply Kd.R_alloc | apply Kd.R_drewN | apply Kd.R_drew)); exact HO_3.out) hb); have n1_ := Aside0.mk (Kd.R_below (by (with_reducible repeat (first | apply Kd.R_alloc | apply Kd.R_drewN | apply Kd.R_drew)); exact HO_9.out) hb); have n2_ := Aside0.mk (Kd.R_below (by (with_reducible repeat (first | apply Kd.R_alloc | apply Kd.R_drewN | apply Kd.R_drew)); exact HO366.out) hb); have n3_ := Aside0.mk (Kd.R_lower ho0 (below_size (by repeat (first | (with_reducible first | exact HB.out | apply below_alloc | apply pw_below_drewN | apply below_drew1) | exact HB.out)))); have n4_ := Aside0.mk (below_step (by repeat (first | (with_reducible first | exact HB.out | apply below_alloc | apply pw_below_drewN | apply below_drew1) | exact HB.out)) hb); clear HO_3; clear HO_9; clear HO366; clear HB; have HO_3 := n0_; have HO_9 := n1_; have HO366 := n2_; have HO369 := n3_; have HB := n4_; clear n0_ n1_ n2_ n3_ n4_; (try clear hb); (try clear hb2); (try clear hk); (try clear hi); (try clear ho0); have hcv23 := own_string (P := Tryd.prog) Tryd.underlying23 Tryd.underlying5 Tryd.underlying9 (Kd.own_of_R HO369.out))); go_ret; exact ⟨by first | rfl | (simp [errW_none, errW_some] <;> rfl) | (simp [*, errW_none, errW_some] <;> rfl), by repeat (first | (with_reducible first | exact HB.out | apply below_alloc | apply pw_below_drewN | apply below_drew1) | exact HB.out)⟩
end Go.Proofs.YthffpkdadffinaaDoor.X
namespace Go.Proofs.YthffpkdadffinaaDoor.X
open Go.RowKit YthffpkdadffinaaDoorW.PrintWords YthffpkdadffinaaDoorW.PrintLast YthffpkdadffinaaDoorW.PrintMore
attribute [local go_sem] max2_int min2_int max_two min_two max_three min_three max_four min_four   
set_option linter.unusedVariables false
set_option linter.unusedSimpArgs false
def words_kind.f (a0 : ByteArray) : Option (Int) := (norm_Runes.f a0).bind fun t370 => (if (t370.length : Int) = 0 then (some 0) else (if 0 < (t370.length : Int) then ((ucd_Category.f (rd t370 0)).bind fun t374 => (if (rd t370 0) = 95 then (some 3) else (if t374 = 1 then (some 1) else (if t374 = 3 then (some 2) else (some 0))))) else (none)))
set_option maxHeartbeats 8000000 in
set_option maxRecDepth 100000 in
theorem words_kind.calls (a0 : ByteArray) (r : Int) (w : World) (h : words_kind.f a0 = some r) :
  Calls Tryd.prog 90 #[.string a0] w fun e w' => e = .returned (.int .i64 r) ∧ Below w.heap.size w w' := by
 have HB := Aside0.mk (Below.refl w.heap.size w); have H : ((norm_Runes.f a0).bind fun t370 => (if (t370.length : Int) = 0 then (some 0) else (if 0 < (t370.length : Int) then ((ucd_Category.f (rd t370 0)).bind fun t374 => (if (rd t370 0) = 95 then (some 3) else (if t374 = 1 then (some 1) else (if t374 = 3 then (some 2) else (some 0))))) else (none)))) = some r := h; clear h; replace H := Option.bind_eq_some_iff.mp H; obtain ⟨t370, A20, H⟩ := H; (try dsimp only at H); have A2 := Aside0.mk A20; clear A20; by_cases c3 : (t370.length : Int) = 0
 ·rw [if_pos c3] at H; have c3b0 : ((t370.length : Int) == 0) = true := beq_iff_eq.mpr c3; have c3b1 : ((t370.length : Int) != 0) = false := bne_eq_false_iff_eq.mpr c3; clear c3; obtain rfl := Option.some.inj H; go_enter Tryd.func90, Tryd.ntmps90; go_wp2_with (first | ((with_reducible refine gate_callee (f := 72) rfl ?_); refine goesL_ (some 6) rfl rfl Tryd.func72 (by kernel_rfl) rfl #[.string a0] rfl (by (try simp only [List.map_toArray, List.map_cons, List.map_nil]); first | done | rfl | (simp only [List.length_drop, List.length_take]; rfl)) ?_; (with_reducible refine (norm_Runes.calls a0 t370 _ A2.out).mono ?_); rintro e w4 ⟨v371, rfl, ho0, hb⟩; refine ⟨_, rfl, ?_⟩; have n0_ := Aside0.mk (Kd.R_lower ho0 (below_size (by repeat (first | (with_reducible first | exact HB.out | apply below_alloc | apply pw_below_drewN | apply below_drew1) | exact HB.out)))); have n1_ := Aside0.mk (below_step (by repeat (first | (with_reducible first | exact HB.out | apply below_alloc | apply pw_below_drewN | apply below_drew1) | exact HB.out)) hb); clear HB; have HO372 := n0_; have HB := n1_; clear n0_ n1_; (try clear hb); (try clear hb2); (try clear hk); (try clear hi); (try clear ho0); obtain ⟨Ao5, co5, eo5⟩ := Kd.R_slice HO372.out; subst eo5)); go_ret; exact ⟨by first | rfl | (simp [errW_none, errW_some] <;> rfl) | (simp [*, errW_none, errW_some] <;> rfl), by repeat (first | (with_reducible first | exact HB.out | apply below_alloc | apply pw_below_drewN | apply below_drew1) | exact HB.out)⟩
 ·rw [if_neg c3] at H; have c3b0 : ((t370.length : Int) == 0) = false := beq_eq_false_iff_ne.mpr c3; have c3b1 : ((t370.length : Int) != 0) = true := bne_iff_ne.mpr c3; (have c3b2 : ¬ (t370 = []) := fun h_ => c3 (by rw [h_]; rfl)); by_cases c6 : 0 < (t370.length : Int)
  ·rw [if_pos c6] at H; have c6b0 : decide (0 < (t370.length : Int)) = true := decide_eq_true c6; have c6b1 : decide (0 < t370.length) = true := decide_eq_true (by omega); clear c6; replace H := Option.bind_eq_some_iff.mp H; obtain ⟨t374, A70, H⟩ := H; (try dsimp only at H); have A7 := Aside0.mk A70; clear A70; by_cases c8 : (rd t370 0) = 95
   ·rw [if_pos c8] at H; have c8b0 : ((rd t370 0) == 95) = true := beq_iff_eq.mpr c8; have c8b1 : ((rd t370 0) != 95) = false := bne_eq_false_iff_eq.mpr c8; clear c8; obtain rfl := Option.some.inj H; go_enter Tryd.func90, Tryd.ntmps90; go_wp2_with (first | ((with_reducible refine gate_callee (f := 72) rfl ?_); refine goesL_ (some 6) rfl rfl Tryd.func72 (by kernel_rfl) rfl #[.string a0] rfl (by (try simp only [List.map_toArray, List.map_cons, List.map_nil]); first | done | rfl | (simp only [List.length_drop, List.length_take]; rfl)) ?_; (with_reducible refine (norm_Runes.calls a0 t370 _ A2.out).mono ?_); rintro e w9 ⟨v371, rfl, ho0, hb⟩; refine ⟨_, rfl, ?_⟩; have n0_ := Aside0.mk (Kd.R_lower ho0 (below_size (by repeat (first | (with_reducible first | exact HB.out | apply below_alloc | apply pw_below_drewN | apply below_drew1) | exact HB.out)))); have n1_ := Aside0.mk (below_step (by repeat (first | (with_reducible first | exact HB.out | apply below_alloc | apply pw_below_drewN | apply below_drew1) | exact HB.out)) hb); clear HB; have HO372 := n0_; have HB := n1_; clear n0_ n1_; (try clear hb); (try clear hb2); (try clear hk); (try clear hi); (try clear ho0); obtain ⟨Ao10, co10, eo10⟩ := Kd.R_slice HO372.out; subst eo10; have p373 : 0 ≤ (0 : Int) := (by omega); have q373 : 0 < (t370.length : Int) := of_decide_eq_true (by first | (with_reducible assumption) | assumption); obtain ⟨ad373, e373, hx373_0⟩ := Kd.at_int (Kd.R_reads' HO372.out).2.2 0 p373 q373; cases e373; have qi373 : (0 < t370.length) = True := eq_true (by omega); (try rw [show ((0 : Int)).toNat = 0 from rfl] at hx373_0); (try rw [Addr.add_zero'] at hx373_0); replace p373 := eq_true p373; replace q373 := eq_true q373) | ((with_reducible refine gate_callee (f := 25) rfl ?_); refine goesL_ (some 13) rfl rfl Tryd.func25 (by kernel_rfl) rfl #[.int .i32 (rd t370 0)] rfl (by (try simp only [List.map_toArray, List.map_cons, List.map_nil]); first | done | rfl | (simp only [List.length_drop, List.length_take]; rfl)) ?_; (with_reducible refine (ucd_Category.calls (rd t370 0) t374 _ A7.out).mono ?_); rintro e w11 ⟨rfl, hb⟩; refine ⟨_, rfl, ?_⟩; have n0_ := Aside0.mk (Kd.R_below (by (with_reducible repeat (first | apply Kd.R_alloc | apply Kd.R_drewN | apply Kd.R_drew)); exact HO372.out) hb); have n1_ := Aside0.mk (below_step (by repeat (first | (with_reducible first | exact HB.out | apply below_alloc | apply pw_below_drewN | apply below_drew1) | exact HB.out)) hb); clear HO372; clear HB; have HO372 := n0_; have HB := n1_; clear n0_ n1_; (try clear hb); (try clear hb2); (try clear hk); (try clear hi); have p375 : 0 ≤ (0 : Int) := (by omega); have q375 : 0 < (t370.length : Int) := of_decide_eq_true (by first | (with_reducible assumption) | assumption); obtain ⟨ad375, e375, hx375_0⟩ := Kd.at_int (Kd.R_reads' HO372.out).2.2 0 p375 q375; obtain rfl : ad373 = ad375 := (by injection e375); have qi375 : (0 < t370.length) = True := eq_true (by omega); (try rw [show ((0 : Int)).toNat = 0 from rfl] at hx375_0); (try rw [Addr.add_zero'] at hx375_0); replace p375 := eq_true p375; replace q375 := eq_true q375)); go_ret; exact ⟨by first | rfl | (simp [errW_none, errW_some] <;> rfl) | (simp [*, errW_none, errW_some] <;> rfl), by repeat (first | (with_reducible first | exact HB.out | apply below_alloc | apply pw_below_drewN | apply below_drew1) | exact HB.out)⟩
   ·rw [if_neg c8] at H; have c8b0 : ((rd t370 0) == 95) = false := beq_eq_false_iff_ne.mpr c8; have c8b1 : ((rd t370 0) != 95) = true := bne_iff_ne.mpr c8; by_cases c12 : t374 = 1
    ·rw [if_pos c12] at H; have c12b0 : (t374 == 1) = true := beq_iff_eq.mpr c12; have c12b1 : (t374 != 1) = false := bne_eq_false_iff_eq.mpr c12; clear c12; obtain rfl := Option.some.inj H; go_enter Tryd.func90, Tryd.ntmps90; go_wp2_with (first | ((with_reducible refine gate_callee (f := 72) rfl ?_); refine goesL_ (some 6) rfl rfl Tryd.func72 (by kernel_rfl) rfl #[.string a0] rfl (by (try simp only [List.map_toArray, List.map_cons, List.map_nil]); first | done | rfl | (simp only [List.length_drop, List.length_take]; rfl)) ?_; (with_reducible refine (norm_Runes.calls a0 t370 _ A2.out).mono ?_); rintro e w13 ⟨v371, rfl, ho0, hb⟩; refine ⟨_, rfl, ?_⟩; have n0_ := Aside0.mk (Kd.R_lower ho0 (below_size (by repeat (first | (with_reducible first | exact HB.out | apply below_alloc | apply pw_below_drewN | apply below_drew1) | exact HB.out)))); have n1_ := Aside0.mk (below_step (by repeat (first | (with_reducible first | exact HB.out | apply below_alloc | apply pw_below_drewN | apply below_drew1) | exact HB.out)) hb); clear HB; have HO372 := n0_; have HB := n1_; clear n0_ n1_; (try clear hb); (try clear hb2); (try clear hk); (try clear hi); (try clear ho0); obtain ⟨Ao14, co14, eo14⟩ := Kd.R_slice HO372.out; subst eo14; have p373 : 0 ≤ (0 : Int) := (by omega); have q373 : 0 < (t370.length : Int) := of_decide_eq_true (by first | (with_reducible assumption) | assumption); obtain ⟨ad373, e373, hx373_0⟩ := Kd.at_int (Kd.R_reads' HO372.out).2.2 0 p373 q373; cases e373; have qi373 : (0 < t370.length) = True := eq_true (by omega); (try rw [show ((0 : Int)).toNat = 0 from rfl] at hx373_0); (try rw [Addr.add_zero'] at hx373_0); replace p373 := eq_true p373; replace q373 := eq_true q373) | ((with_reducible refine gate_callee (f := 25) rfl ?_); refine goesL_ (some 13) rfl rfl Tryd.func25 (by kernel_rfl) rfl #[.int .i32 (rd t370 0)] rfl (by (try simp only [List.map_toArray, List.map_cons, List.map_nil]); first | done | rfl | (simp only [List.length_drop, List.length_take]; rfl)) ?_; (with_reducible refine (ucd_Category.calls (rd t370 0) t374 _ A7.out).mono ?_); rintro e w15 ⟨rfl, hb⟩; refine ⟨_, rfl, ?_⟩; have n0_ := Aside0.mk (Kd.R_below (by (with_reducible repeat (first | apply Kd.R_alloc | apply Kd.R_drewN | apply Kd.R_drew)); exact HO372.out) hb); have n1_ := Aside0.mk (below_step (by repeat (first | (with_reducible first | exact HB.out | apply below_alloc | apply pw_below_drewN | apply below_drew1) | exact HB.out)) hb); clear HO372; clear HB; have HO372 := n0_; have HB := n1_; clear n0_ n1_; (try clear hb); (try clear hb2); (try clear hk); (try clear hi); have p375 : 0 ≤ (0 : Int) := (by omega); have q375 : 0 < (t370.length : Int) := of_decide_eq_true (by first | (with_reducible assumption) | assumption); obtain ⟨ad375, e375, hx375_0⟩ := Kd.at_int (Kd.R_reads' HO372.out).2.2 0 p375 q375; obtain rfl : ad373 = ad375 := (by injection e375); have qi375 : (0 < t370.length) = True := eq_true (by omega); (try rw [show ((0 : Int)).toNat = 0 from rfl] at hx375_0); (try rw [Addr.add_zero'] at hx375_0); replace p375 := eq_true p375; replace q375 := eq_true q375)); go_ret; exact ⟨by first | rfl | (simp [errW_none, errW_some] <;> rfl) | (simp [*, errW_none, errW_some] <;> rfl), by repeat (first | (with_reducible first | exact HB.out | apply below_alloc | apply pw_below_drewN | apply below_drew1) | exact HB.out)⟩
    ·rw [if_neg c12] at H; have c12b0 : (t374 == 1) = false := beq_eq_false_iff_ne.mpr c12; have c12b1 : (t374 != 1) = true := bne_iff_ne.mpr c12; by_cases c16 : t374 = 3
     ·rw [if_pos c16] at H; have c16b0 : (t374 == 3) = true := beq_iff_eq.mpr c16; have c16b1 : (t374 != 3) = false := bne_eq_false_iff_eq.mpr c16; clear c16; obtain rfl := Option.some.inj H; go_enter Tryd.func90, Tryd.ntmps90; go_wp2_with (first | ((with_reducible refine gate_callee (f := 72) rfl ?_); refine goesL_ (some 6) rfl rfl Tryd.func72 (by kernel_rfl) rfl #[.string a0] rfl (by (try simp only [List.map_toArray, List.map_cons, List.map_nil]); first | done | rfl | (simp only [List.length_drop, List.length_take]; rfl)) ?_; (with_reducible refine (norm_Runes.calls a0 t370 _ A2.out).mono ?_); rintro e w17 ⟨v371, rfl, ho0, hb⟩; refine ⟨_, rfl, ?_⟩; have n0_ := Aside0.mk (Kd.R_lower ho0 (below_size (by repeat (first | (with_reducible first | exact HB.out | apply below_alloc | apply pw_below_drewN | apply below_drew1) | exact HB.out)))); have n1_ := Aside0.mk (below_step (by repeat (first | (with_reducible first | exact HB.out | apply below_alloc | apply pw_below_drewN | apply below_drew1) | exact HB.out)) hb); clear HB; have HO372 := n0_; have HB := n1_; clear n0_ n1_; (try clear hb); (try clear hb2); (try clear hk); (try clear hi); (try clear ho0); obtain ⟨Ao18, co18, eo18⟩ := Kd.R_slice HO372.out; subst eo18; have p373 : 0 ≤ (0 : Int) := (by omega); have q373 : 0 < (t370.length : Int) := of_decide_eq_true (by first | (with_reducible assumption) | assumption); obtain ⟨ad373, e373, hx373_0⟩ := Kd.at_int (Kd.R_reads' HO372.out).2.2 0 p373 q373; cases e373; have qi373 : (0 < t370.length) = True := eq_true (by omega); (try rw [show ((0 : Int)).toNat = 0 from rfl] at hx373_0); (try rw [Addr.add_zero'] at hx373_0); replace p373 := eq_true p373; replace q373 := eq_true q373) | ((with_reducible refine gate_callee (f := 25) rfl ?_); refine goesL_ (some 13) rfl rfl Tryd.func25 (by kernel_rfl) rfl #[.int .i32 (rd t370 0)] rfl (by (try simp only [List.map_toArray, List.map_cons, List.map_nil]); first | done | rfl | (simp only [List.length_drop, List.length_take]; rfl)) ?_; (with_reducible refine (ucd_Category.calls (rd t370 0) t374 _ A7.out).mono ?_); rintro e w19 ⟨rfl, hb⟩; refine ⟨_, rfl, ?_⟩; have n0_ := Aside0.mk (Kd.R_below (by (with_reducible repeat (first | apply Kd.R_alloc | apply Kd.R_drewN | apply Kd.R_drew)); exact HO372.out) hb); have n1_ := Aside0.mk (below_step (by repeat (first | (with_reducible first | exact HB.out | apply below_alloc | apply pw_below_drewN | apply below_drew1) | exact HB.out)) hb); clear HO372; clear HB; have HO372 := n0_; have HB := n1_; clear n0_ n1_; (try clear hb); (try clear hb2); (try clear hk); (try clear hi); have p375 : 0 ≤ (0 : Int) := (by omega); have q375 : 0 < (t370.length : Int) := of_decide_eq_true (by first | (with_reducible assumption) | assumption); obtain ⟨ad375, e375, hx375_0⟩ := Kd.at_int (Kd.R_reads' HO372.out).2.2 0 p375 q375; obtain rfl : ad373 = ad375 := (by injection e375); have qi375 : (0 < t370.length) = True := eq_true (by omega); (try rw [show ((0 : Int)).toNat = 0 from rfl] at hx375_0); (try rw [Addr.add_zero'] at hx375_0); replace p375 := eq_true p375; replace q375 := eq_true q375)); go_ret; exact ⟨by first | rfl | (simp [errW_none, errW_some] <;> rfl) | (simp [*, errW_none, errW_some] <;> rfl), by repeat (first | (with_reducible first | exact HB.out | apply below_alloc | apply pw_below_drewN | apply below_drew1) | exact HB.out)⟩
     ·rw [if_neg c16] at H; have c16b0 : (t374 == 3) = false := beq_eq_false_iff_ne.mpr c16; have c16b1 : (t374 != 3) = true := bne_iff_ne.mpr c16; obtain rfl := Option.some.inj H; go_enter Tryd.func90, Tryd.ntmps90; go_wp2_with (first | ((with_reducible refine gate_callee (f := 72) rfl ?_); refine goesL_ (some 6) rfl rfl Tryd.func72 (by kernel_rfl) rfl #[.string a0] rfl (by (try simp only [List.map_toArray, List.map_cons, List.map_nil]); first | done | rfl | (simp only [List.length_drop, List.length_take]; rfl)) ?_; (with_reducible refine (norm_Runes.calls a0 t370 _ A2.out).mono ?_); rintro e w20 ⟨v371, rfl, ho0, hb⟩; refine ⟨_, rfl, ?_⟩; have n0_ := Aside0.mk (Kd.R_lower ho0 (below_size (by repeat (first | (with_reducible first | exact HB.out | apply below_alloc | apply pw_below_drewN | apply below_drew1) | exact HB.out)))); have n1_ := Aside0.mk (below_step (by repeat (first | (with_reducible first | exact HB.out | apply below_alloc | apply pw_below_drewN | apply below_drew1) | exact HB.out)) hb); clear HB; have HO372 := n0_; have HB := n1_; clear n0_ n1_; (try clear hb); (try clear hb2); (try clear hk); (try clear hi); (try clear ho0); obtain ⟨Ao21, co21, eo21⟩ := Kd.R_slice HO372.out; subst eo21; have p373 : 0 ≤ (0 : Int) := (by omega); have q373 : 0 < (t370.length : Int) := of_decide_eq_true (by first | (with_reducible assumption) | assumption); obtain ⟨ad373, e373, hx373_0⟩ := Kd.at_int (Kd.R_reads' HO372.out).2.2 0 p373 q373; cases e373; have qi373 : (0 < t370.length) = True := eq_true (by omega); (try rw [show ((0 : Int)).toNat = 0 from rfl] at hx373_0); (try rw [Addr.add_zero'] at hx373_0); replace p373 := eq_true p373; replace q373 := eq_true q373) | ((with_reducible refine gate_callee (f := 25) rfl ?_); refine goesL_ (some 13) rfl rfl Tryd.func25 (by kernel_rfl) rfl #[.int .i32 (rd t370 0)] rfl (by (try simp only [List.map_toArray, List.map_cons, List.map_nil]); first | done | rfl | (simp only [List.length_drop, List.length_take]; rfl)) ?_; (with_reducible refine (ucd_Category.calls (rd t370 0) t374 _ A7.out).mono ?_); rintro e w22 ⟨rfl, hb⟩; refine ⟨_, rfl, ?_⟩; have n0_ := Aside0.mk (Kd.R_below (by (with_reducible repeat (first | apply Kd.R_alloc | apply Kd.R_drewN | apply Kd.R_drew)); exact HO372.out) hb); have n1_ := Aside0.mk (below_step (by repeat (first | (with_reducible first | exact HB.out | apply below_alloc | apply pw_below_drewN | apply below_drew1) | exact HB.out)) hb); clear HO372; clear HB; have HO372 := n0_; have HB := n1_; clear n0_ n1_; (try clear hb); (try clear hb2); (try clear hk); (try clear hi); have p375 : 0 ≤ (0 : Int) := (by omega); have q375 : 0 < (t370.length : Int) := of_decide_eq_true (by first | (with_reducible assumption) | assumption); obtain ⟨ad375, e375, hx375_0⟩ := Kd.at_int (Kd.R_reads' HO372.out).2.2 0 p375 q375; obtain rfl : ad373 = ad375 := (by injection e375); have qi375 : (0 < t370.length) = True := eq_true (by omega); (try rw [show ((0 : Int)).toNat = 0 from rfl] at hx375_0); (try rw [Addr.add_zero'] at hx375_0); replace p375 := eq_true p375; replace q375 := eq_true q375)); go_ret; exact ⟨by first | rfl | (simp [errW_none, errW_some] <;> rfl) | (simp [*, errW_none, errW_some] <;> rfl), by repeat (first | (with_reducible first | exact HB.out | apply below_alloc | apply pw_below_drewN | apply below_drew1) | exact HB.out)⟩
  ·rw [if_neg c6] at H; exact absurd H (by simp)
end Go.Proofs.YthffpkdadffinaaDoor.X
namespace Go.Proofs.YthffpkdadffinaaDoor.X
open Go.RowKit YthffpkdadffinaaDoorW.PrintWords YthffpkdadffinaaDoorW.PrintLast YthffpkdadffinaaDoorW.PrintMore
attribute [local go_sem] max2_int min2_int max_two min_two max_three min_three max_four min_four   
set_option linter.unusedVariables false
set_option linter.unusedSimpArgs false
def words_joint.j0 : Nat → ByteArray → Bool → Option (Int)
 | 0, _, _ => none
 | k + 1, x3, x4 => if x4 = true then (some 1) else (if x3.toList = ([46] : List UInt8) then (some 2) else (if x3.toList = ([44] : List UInt8) then (some 2) else (some 0)))
def words_joint.f (k : Nat) (a0 : ByteArray) : Option (Int) := if a0.toList = ([39] : List UInt8) then (words_joint.j0 k a0 (a0.toList == ([39] : List UInt8))) else (if a0.toList = ([226, 128, 153] : List UInt8) then (words_joint.j0 k a0 (a0.toList == ([226, 128, 153] : List UInt8))) else (words_joint.j0 k a0 (a0.toList == ([194, 183] : List UInt8))))
theorem words_joint.mono_l : ∀ k, (∀ y0 y1, LeO (words_joint.j0 k y0 y1) (words_joint.j0 (k + 1) y0 y1))
 | 0 => fun _ _ r h => by simp [words_joint.j0] at h
 | k + 1 => by
  have ih0 := words_joint.mono_l k
  ·intro y0 y1; unfold words_joint.j0; repeat' first | (with_reducible exact ih0 _ _) | (with_reducible exact LeO.refl _) | (with_reducible exact LeO.none _) | (with_reducible refine LeO.ite ?_ ?_) | (with_reducible refine LeO.bind ?_ (fun _ => ?_)) | exact ih0 _ _ | exact LeO.none _ | refine LeO.ite ?_ ?_ | refine LeO.bind ?_ (fun _ => ?_)
theorem words_joint.mono : ∀ a0 k, LeO (words_joint.f k a0) (words_joint.f (k + 1) a0) := by
 intro a0 k; have ih0 := words_joint.mono_l k; unfold words_joint.f; repeat' first | (with_reducible exact ih0 _ _) | (with_reducible exact LeO.refl _) | (with_reducible exact LeO.none _) | (with_reducible refine LeO.ite ?_ ?_) | (with_reducible refine LeO.bind ?_ (fun _ => ?_)) | exact ih0 _ _ | exact LeO.none _ | refine LeO.ite ?_ ?_ | refine LeO.bind ?_ (fun _ => ?_)
set_option maxHeartbeats 8000000 in
set_option maxRecDepth 100000 in
theorem words_joint.calls (k : Nat) (a0 : ByteArray) (r : Int) (w : World) (h : words_joint.f k a0 = some r) :
  Calls Tryd.prog 91 #[.string a0] w fun e w' => e = .returned (.int .i64 r) ∧ Drawn0 w w' := by
 have H : (if a0.toList = ([39] : List UInt8) then (words_joint.j0 k a0 (a0.toList == ([39] : List UInt8))) else (if a0.toList = ([226, 128, 153] : List UInt8) then (words_joint.j0 k a0 (a0.toList == ([226, 128, 153] : List UInt8))) else (words_joint.j0 k a0 (a0.toList == ([194, 183] : List UInt8))))) = some r := h; clear h; have HC2 := Aside0.mk H; clear H; go_enter Tryd.func91, Tryd.ntmps91; go_upto_if 4 with (fail); go_cut [4] (fun v4 wc => ∃ (kq : Nat) (x4_1 : Bool), v4 = .bool x4_1 ∧ Aside0 (words_joint.j0 kq a0 x4_1 = some r) ∧ Aside0 (kq ≤ k) ∧ Drawn0 w wc)
 case first =>
  have H := HC2.out; clear HC2; by_cases c3 : a0.toList = ([39] : List UInt8)
  ·rw [if_pos c3] at H; have c3b0 : (a0.toList == ([39] : List UInt8)) = true := beq_iff_eq.mpr c3; have c3b1 : (a0.toList != ([39] : List UInt8)) = false := bne_eq_false_iff_eq.mpr c3; clear c3
   (first | rw [c3b0] | (simp only [i64_w, i32_w]; rw [c3b0]) | skip)
   have H' := Aside0.mk H; clear H; go_wp2; go_meet
   case rel => exact ⟨_, ((a0.toList == ([39] : List UInt8))), (by first | rfl | (simp; done) | (simp [*]; done)), H', ⟨by first | omega | exact Nat.le_refl _⟩, by repeat (first | exact Drawn0.refl _ | apply Drawn0.step)⟩
  ·rw [if_neg c3] at H; have c3b0 : (a0.toList == ([39] : List UInt8)) = false := beq_eq_false_iff_ne.mpr c3; have c3b1 : (a0.toList != ([39] : List UInt8)) = true := bne_iff_ne.mpr c3
   (first | rw [c3b0] | (simp only [i64_w, i32_w]; rw [c3b0]) | skip)
   by_cases c4 : a0.toList = ([226, 128, 153] : List UInt8)
   ·rw [if_pos c4] at H; have c4b0 : (a0.toList == ([226, 128, 153] : List UInt8)) = true := beq_iff_eq.mpr c4; have c4b1 : (a0.toList != ([226, 128, 153] : List UInt8)) = false := bne_eq_false_iff_eq.mpr c4; clear c4; have H' := Aside0.mk H; clear H; go_wp2; go_meet
    case rel => exact ⟨_, ((a0.toList == ([226, 128, 153] : List UInt8))), (by first | rfl | (simp; done) | (simp [*]; done)), H', ⟨by first | omega | exact Nat.le_refl _⟩, by repeat (first | exact Drawn0.refl _ | apply Drawn0.step)⟩
   ·rw [if_neg c4] at H; have c4b0 : (a0.toList == ([226, 128, 153] : List UInt8)) = false := beq_eq_false_iff_ne.mpr c4; have c4b1 : (a0.toList != ([226, 128, 153] : List UInt8)) = true := bne_iff_ne.mpr c4; have H' := Aside0.mk H; clear H; go_wp2; go_meet
    case rel => exact ⟨_, ((a0.toList == ([194, 183] : List UInt8))), (by first | rfl | (simp; done) | (simp [*]; done)), H', ⟨by first | omega | exact Nat.le_refl _⟩, by repeat (first | exact Drawn0.refl _ | apply Drawn0.step)⟩
 case rest =>
  clear HC2; (try clear p2); (try clear c3); (try clear c3b0); (try clear c3b1); (try clear c4); (try clear c4b0); (try clear c4b1); obtain ⟨kq, x4_1, rfl, HA, HJ1, ⟨mc1, rfl⟩⟩ := hcut
  cases kq with
  | zero => exact absurd HA.out (by simp [words_joint.j0])
  | succ kj1 =>
   have H := HA.out; clear HA; simp only [words_joint.j0] at H; by_cases c5 : x4_1 = true
   ·subst c5; rw [if_pos rfl] at H; obtain rfl := Option.some.inj H; go_wp2; go_ret; exact ⟨by first | rfl | (simp; done) | (simp [*]; done), by repeat (first | exact Drawn0.refl _ | apply Drawn0.step)⟩
   ·replace c5 := Bool.eq_false_iff.mpr c5; subst c5; rw [if_neg (show ¬ (false = true) by decide)] at H; by_cases c6 : a0.toList = ([46] : List UInt8)
    ·rw [if_pos c6] at H; have c6b0 : (a0.toList == ([46] : List UInt8)) = true := beq_iff_eq.mpr c6; have c6b1 : (a0.toList != ([46] : List UInt8)) = false := bne_eq_false_iff_eq.mpr c6; clear c6; obtain rfl := Option.some.inj H; go_wp2; go_ret; exact ⟨by first | rfl | (simp; done) | (simp [*]; done), by repeat (first | exact Drawn0.refl _ | apply Drawn0.step)⟩
    ·rw [if_neg c6] at H; have c6b0 : (a0.toList == ([46] : List UInt8)) = false := beq_eq_false_iff_ne.mpr c6; have c6b1 : (a0.toList != ([46] : List UInt8)) = true := bne_iff_ne.mpr c6; by_cases c7 : a0.toList = ([44] : List UInt8)
     ·rw [if_pos c7] at H; have c7b0 : (a0.toList == ([44] : List UInt8)) = true := beq_iff_eq.mpr c7; have c7b1 : (a0.toList != ([44] : List UInt8)) = false := bne_eq_false_iff_eq.mpr c7; clear c7; obtain rfl := Option.some.inj H; go_wp2; go_ret; exact ⟨by first | rfl | (simp; done) | (simp [*]; done), by repeat (first | exact Drawn0.refl _ | apply Drawn0.step)⟩
     ·rw [if_neg c7] at H; have c7b0 : (a0.toList == ([44] : List UInt8)) = false := beq_eq_false_iff_ne.mpr c7; have c7b1 : (a0.toList != ([44] : List UInt8)) = true := bne_iff_ne.mpr c7; obtain rfl := Option.some.inj H; go_wp2; go_ret; exact ⟨by first | rfl | (simp; done) | (simp [*]; done), by repeat (first | exact Drawn0.refl _ | apply Drawn0.step)⟩
end Go.Proofs.YthffpkdadffinaaDoor.X
