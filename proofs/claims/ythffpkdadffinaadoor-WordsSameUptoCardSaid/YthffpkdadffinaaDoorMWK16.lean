/-
  Several texts of this claim in one: what its law's proof uses.
-/
import Derived.Test.YthffpkdadffinaaDoorMWK15
import Derived.Test.YthffpkdadffinaaDoorMWK4
import Derived.WalkSpells
import Derived.Test.YthffpkdadffinaaDoorMWK2
import Derived.Test.YthffpkdadffinaaDoorMWK6
import Derived.Test.YthffpkdadffinaaDoorMWK11
import Derived.Test.YthffpkdadffinaaDoorMWK14
namespace Go.Proofs.YthffpkdadffinaaDoor.Wb
set_option linter.unusedVariables false
set_option linter.unusedSimpArgs false
open Go.Proofs.YthffpkdadffinaaDoor.Ux (Bytes full)
open Go.Proofs.YthffpkdadffinaaDoor.Ve (opn)
open Go.Proofs.YthffpkdadffinaaDoor.Vb (cat)
open Go.Proofs.YthffpkdadffinaaDoor.Ot (rns)
open Go.RowKit YthffpkdadffinaaDoorW.PrintWords X Vp0 Sga Sgb Sgp Sgt Sgv Sgw Wa
def kindU : List Int → Int
  | [] => 0
  | x :: _ => if x = 95 then 3 else if cat x = 1 then 1 else if cat x = 3 then 2 else 0
def kindF (s : ByteArray) : Int := kindU (rns (bytesOf s))
def jointF (s : ByteArray) : Int := if s = ⟨#[39]⟩ ∨ s = ⟨#[226, 128, 153]⟩ ∨ s = ⟨#[194, 183]⟩ then 1 else if s = ⟨#[46]⟩ ∨ s = ⟨#[44]⟩ then 2 else 0
def T (l : List ByteArray) (i : Nat) : ByteArray := l.getD i ⟨#[]⟩
def inW (l : List ByteArray) (i : Nat) : Bool := decide (kindF (T l i) ≠ 0) || (decide (jointF (T l i) ≠ 0) && decide (0 < i) && decide (i + 1 < l.length) && decide (kindF (T l (i - 1)) = jointF (T l i)) && decide (kindF (T l (i + 1)) = jointF (T l i)))
def runs (fl : Nat → Bool) : Nat → Nat → Option Nat → List (Nat × Nat)
  | 0, _, none => []
  | 0, i, some f => [(f, i)]
  | q + 1, i, none => if fl i = true then runs fl q (i + 1) (some i) else runs fl q (i + 1) none
  | q + 1, i, some f => if fl i = true then runs fl q (i + 1) (some f) else (f, i) :: runs fl q (i + 1) none
def Apart (N : Nat) : Nat → List (Nat × Nat) → Prop
  | _, [] => True
  | n, p :: r => n ≤ p.1 ∧ p.1 < p.2 ∧ p.2 ≤ N ∧ Apart N (p.2 + 1) r
theorem Apart.low {N : Nat} {n m : Nat} {l : List (Nat × Nat)} (h : Apart N n l) (hm : m ≤ n) : Apart N m l := by
  cases l with
  | nil => trivial
  | cons p r => exact ⟨Nat.le_trans hm h.1, h.2⟩
theorem runs_apart (fl : Nat → Bool) : ∀ (q i : Nat), Apart (i + q) i (runs fl q i none) ∧ ∀ f, f < i → Apart (i + q) f (runs fl q i (some f))
  | 0, i => ⟨trivial, fun f h => ⟨Nat.le_refl _, h, Nat.le_refl _, trivial⟩⟩
  | q + 1, i => by
    have ih := runs_apart fl q (i + 1); rw [show i + 1 + q = i + (q + 1) by omega] at ih; constructor
    · rw [runs]; split
      · exact ih.2 i (Nat.lt_succ_self _)
      · exact ih.1.low (Nat.le_succ _)
    · intro f hf; rw [runs]; split
      · exact ih.2 f (Nat.lt_succ_of_lt hf)
      · exact ⟨Nat.le_refl _, hf, by omega, ih.1⟩
theorem runs_len (fl : Nat → Bool) : ∀ (q i : Nat), (runs fl q i none).length ≤ q ∧ ∀ f, (runs fl q i (some f)).length ≤ q + 1
  | 0, i => ⟨Nat.le_refl _, fun f => Nat.le_refl _⟩
  | q + 1, i => by
    have ih := runs_len fl q (i + 1); constructor
    · rw [runs]; split
      · exact ih.2 i
      · exact Nat.le_succ_of_le ih.1
    · intro f; rw [runs]; split
      · exact Nat.le_succ_of_le (ih.2 f)
      · rw [List.length_cons]; omega
def runsT (l : List ByteArray) : List (Nat × Nat) := runs (inW l) l.length 0 none
def catR (l : List ByteArray) (f t : Nat) : ByteArray := catB ((l.take t).drop f)
def keyR (l : List ByteArray) (f t : Nat) : ByteArray := keyS (bytesOf (catR l f t))
theorem runsT_apart (l : List ByteArray) : Apart l.length 0 (runsT l) := by
  have h := (runs_apart (inW l) l.length 0).1; rw [Nat.zero_add] at h; exact h
theorem Apart.mem {N : Nat} : ∀ {l : List (Nat × Nat)} {n : Nat}, Apart N n l → ∀ p ∈ l, n ≤ p.1 ∧ p.1 < p.2 ∧ p.2 ≤ N
  | [], _, _, p, hp => by cases hp
  | q :: r, n, h, p, hp => by
    rcases List.mem_cons.1 hp with rfl | hp
    · exact ⟨h.1, h.2.1, h.2.2.1⟩
    · have := Apart.mem h.2.2.2 p hp; exact ⟨by have := h.1; have := h.2.1; omega, this.2⟩
theorem Apart.next {N : Nat} : ∀ {l : List (Nat × Nat)} {n : Nat}, Apart N n l → ∀ i (h : i + 1 < l.length), l[i].2 < l[i + 1].1
  | [], _, _, i, h => by simp at h
  | [p], _, _, i, h => by simp at h
  | p :: q :: r, n, hh, 0, h => hh.2.2.2.1
  | p :: q :: r, n, hh, i + 1, h => Apart.next hh.2.2.2 i (by simpa using h)
def FillO (b : List Int) : Nat → Bool → List SG → Prop
  | a, _, [] => a ≤ b.length
  | a, o, s :: l => s.f1 = a ∧ ∃ (e : Nat) (rs : List Int), s.f2 = e ∧ a < e ∧ e ≤ b.length ∧ s.f0 = txt rs ∧ Inv b a e rs ∧ (o = true → ∃ x u, rs = x :: u ∧ opn x = true) ∧ FillO b e true l
theorem fillO_cut (b : List Int) : ∀ (t : List SP) (rs : List Int) (a e : Nat) (o : Bool), a < e → e ≤ b.length → Inv b a e rs → (o = true → ∃ x u, rs = x :: u ∧ opn x = true) → Bk.ful (b.drop e) (e : Int) = t → FillO b a o (cutR t rs a e)
  | [], rs, a, e, o, hae, hel, hi, ho, ht => by
    rw [cutR]; exact ⟨rfl, e, rs, rfl, hae, hel, rfl, hi, ho, hel⟩
  | p :: t, rs, a, e, o, hae, hel, hi, ho, ht => by
    cases hd : b.drop e with
    | nil => rw [hd, Bk.ful_nil] at ht; cases ht
    | cons c u =>
      rw [hd, Bk.ful_cons] at ht; have hw := Ux.one1_width c u; (have hul : (b.drop e).length = 1 + u.length := by rw [hd, List.length_cons]; omega); rw [List.length_drop] at hul; have hst := inv_step hi c u hd; have hst0 := inv_step (inv_self b e) c u hd; obtain ⟨w, hwe⟩ : ∃ w : Nat, (Ux.one1 c u).2.1 = (w : Int) := ⟨(Ux.one1 c u).2.1.toNat, by omega⟩; rw [hwe, Int.toNat_natCast] at hst hst0; have ht1 := (List.cons.inj ht).1; have ht2 := (List.cons.inj ht).2; rw [hwe, Int.toNat_natCast, ← hd, List.drop_drop] at ht2; (have p0 : p.f0 = (Ux.one1 c u).1 := by rw [← ht1]); (have p1 : p.f1 = (e : Int) := by rw [← ht1]); (have p2 : p.f2 = (w : Int) := by rw [← ht1, hwe]); (have e2 : p.f1 + p.f2 = ((e + w : Nat) : Int) := by rw [p1, p2]; push_cast; rfl); rw [cutR, e2, p1]; rw [← p0] at hst hst0; (have ih := fun rs a o hae hi ho => fillO_cut b t rs a (e + w) o hae (by omega) hi ho (by rw [← ht2]; push_cast; rfl)); split
      · rename_i hop; exact ⟨rfl, e, rs, rfl, hae, hel, rfl, hi, ho, ih [p.f0] e true (by omega) hst0 (fun _ => ⟨_, [], rfl, hop⟩)⟩
      · refine ih (rs ++ [p.f0]) a o (by omega) hst (fun h => ?_); obtain ⟨x, v, rfl, hx⟩ := ho h; exact ⟨x, v ++ [p.f0], rfl, hx⟩
theorem fillO_all (b : List Int) : FillO b 0 false (cutS (full b)) := by
  cases b with
  | nil => rw [Bk.full_ful, Bk.ful_nil]; exact Nat.le_refl _
  | cons c t =>
    have hw := Ux.one1_width c t; rw [Bk.full_ful, Bk.ful_cons, cutS]; obtain ⟨w, hwe⟩ : ∃ w : Nat, (Ux.one1 c t).2.1 = (w : Int) := ⟨(Ux.one1 c t).2.1.toNat, by omega⟩; have hst := inv_step (inv_self (c :: t) 0) c t (by simp); rw [hwe, Int.toNat_natCast] at hst; simp only [hwe, Int.toNat_natCast, List.nil_append, Nat.zero_add, Int.zero_add] at hst ⊢; exact fillO_cut (c :: t) _ [(Ux.one1 c t).1] 0 w false (by omega) (by simp only [List.length_cons]; omega) hst (fun h => by cases h) rfl
theorem FillO.take {b : List Int} : ∀ {l : List SG} {a : Nat} {o : Bool} (k : Nat), FillO b a o l → FillO b a o (l.take k)
  | [], a, o, k, h => by rw [List.take_nil]; exact h
  | s :: l, a, o, 0, h => by
    obtain ⟨-, e, rs, -, h2, h3, -⟩ := h; (show a ≤ b.length); omega
  | s :: l, a, o, k + 1, h => by
    obtain ⟨h1, e, rs, h2, h3, h4, h5, h6, h7, h8⟩ := h; exact ⟨h1, e, rs, h2, h3, h4, h5, h6, h7, h8.take k⟩
theorem inv_app {b : List Int} {a e d : Nat} {r s : List Int} (h : Inv b a e r) (h2 : Inv b e d s) (hed : e ≤ d) : Inv b a d (r ++ s) := by
  intro m hm; rw [h m (by omega), h2 m hm, List.append_assoc]
theorem FillO.range {b : List Int} : ∀ {l : List SG} {a : Nat} {o : Bool}, FillO b a o l → ∀ m (hm : m < l.length), ∃ (e : Nat) (rs : List Int), l[m].f2 = e ∧ a < e ∧ e ≤ b.length ∧ catB ((l.take (m + 1)).map (·.f0)) = txt rs ∧ Inv b a e rs ∧ (o = true → ∃ x u, rs = x :: u ∧ opn x = true) ∧ FillO b e true (l.drop (m + 1))
  | [], a, o, h, m, hm => by simp at hm
  | s :: l, a, o, h, 0, hm => by
    obtain ⟨h1, e, rs, h2, h3, h4, h5, h6, h7, h8⟩ := h; refine ⟨e, rs, h2, h3, h4, ?_, h6, h7, h8⟩; rw [← h5]; refine ba_ext ?_; (show (s.f0 ++ (⟨#[]⟩ : ByteArray)).data.toList = _); rw [ba_app]; simp
  | s :: l, a, o, h, m + 1, hm => by
    obtain ⟨h1, e, rs, h2, h3, h4, h5, h6, h7, h8⟩ := h; obtain ⟨e2, rs2, q2, q3, q4, q5, q6, q7, q8⟩ := FillO.range h8 m (by simpa using hm); obtain ⟨x, u, rfl, hx⟩ := q7 rfl; refine ⟨e2, rs ++ x :: u, q2, by omega, q4, ?_, inv_app h6 q6 (by omega), fun ho => ?_, q8⟩
    · rw [txt_app rs (x :: u) x u rfl hx, ← q5, ← h5]
      rfl
    · obtain ⟨y, v, rfl, hy⟩ := h7 ho; exact ⟨y, v ++ x :: u, rfl, hy⟩
theorem FillO.at {b : List Int} : ∀ {l : List SG} {a : Nat} {o : Bool}, FillO b a o l → ∀ m (hm : m < l.length), ∃ (c : Nat) (p : Bool), l[m].f1 = c ∧ a ≤ c ∧ FillO b c p (l.drop m)
  | [], a, o, h, m, hm => by simp at hm
  | s :: l, a, o, h, 0, hm => ⟨a, o, h.1, Nat.le_refl _, h⟩
  | s :: l, a, o, h, m + 1, hm => by
    obtain ⟨h1, e, rs, h2, h3, h4, h5, h6, h7, h8⟩ := h; obtain ⟨c, p, q1, q2, q3⟩ := FillO.at h8 m (by simpa using hm); exact ⟨c, p, q1, by omega, q3⟩
theorem run_raw {b : List Int} {l : List SG} (h : FillO b 0 false l) (f t : Nat) (hft : f < t) (ht : t ≤ l.length) :
    ∃ (s e : Nat), l[f].f1 = s ∧ (l[t - 1]'(by omega)).f2 = e ∧ s < e ∧ e ≤ b.length ∧ catR (l.map (·.f0)) f t = txt (rns ((b.take e).drop s)) := by
  obtain ⟨c, p, q1, q2, q3⟩ := h.at f (by omega); obtain ⟨e, rs, p1, p2, p3, p4, p5, p6, p7⟩ := q3.range (t - f - 1) (by rw [List.length_drop]; omega); refine ⟨c, e, q1, ?_, p2, p3, ?_⟩
  · rw [List.getElem_drop] at p1; (have : f + (t - f - 1) = t - 1 := by omega); simp only [this] at p1; exact p1
  · rw [rns_inv p5, ← p4]; unfold catR; rw [← List.map_take, ← List.map_drop, List.drop_take]; congr 3; omega
theorem keyR_raw {b : List Int} (hB : Bytes b) {l : List SG} (h : FillO b 0 false l) (f t : Nat) (hft : f < t) (ht : t ≤ l.length) :
    ∃ (s e : Nat), l[f].f1 = s ∧ (l[t - 1]'(by omega)).f2 = e ∧ s < e ∧ e ≤ b.length ∧ keyR (l.map (·.f0)) f t = keyS ((b.take e).drop s) ∧ 0 < (keyR (l.map (·.f0)) f t).size := by
  obtain ⟨s, e, h1, h2, h3, h4, h5⟩ := run_raw h f t hft ht; (have hBs : Bytes ((b.take e).drop s) := fun x hx => hB x (List.mem_of_mem_take (List.mem_of_mem_drop hx))); (have hk : keyR (l.map (·.f0)) f t = keyS ((b.take e).drop s) := by unfold keyR; rw [h5]; exact keyS_txt _ hBs); refine ⟨s, e, h1, h2, h3, h4, hk, ?_⟩; rw [hk]; exact keyS_pos _ (by rw [List.length_drop, List.length_take]; omega)
end Go.Proofs.YthffpkdadffinaaDoor.Wb
namespace Go.Proofs.YthffpkdadffinaaDoor.Vtf
set_option linter.unusedVariables false
set_option linter.unusedSimpArgs false
open Go.Proofs.YthffpkdadffinaaDoor.Vef (foldU allB allB_at fold_out)
open Go.RowKit YthffpkdadffinaaDoorW.PrintWords Hp X
open Go.Proofs.YthffpkdadffinaaDoor.Vin (inB in_some)
abbrev KI : Kd Int := Kd.int .i32
abbrev T3 : Nat := 21
theorem InP (w : World) (r lo hi : Int) : Calls Tryd.prog 88 #[.int .i32 r, .int .i32 lo, .int .i32 hi] w fun e w' => e = .returned (.bool (inB r lo hi)) ∧ Below w.heap.size w w' :=
  (tremaref02_in.calls r lo hi _ w (in_some r lo hi)).mono fun _ _ ⟨h1, h2⟩ => ⟨h1, h2.below⟩
def fromL : List Int := [181, 376, 383, 837, 902, 962, 8486, 8490, 8491]
def toL : List Int := [956, 255, 115, 953, 940, 963, 969, 107, 229]
def refL (r : Int) : List Int → List Int → List Int
  | f :: fs, t :: ts => if r = f then [t] else refL r fs ts
  | _, _ => [r]
def q1 (r : Int) : Bool := inB r 65 90 || inB r 192 214 || inB r 216 222 || inB r 913 929 || inB r 931 937 || inB r 1040 1071
def q3 (r : Int) : Bool := (Int.tmod r 2 == 0) && (inB r 256 302 || inB r 306 310 || inB r 330 374 || inB r 7680 7828)
def q4 (r : Int) : Bool := (Int.tmod r 2 == 1) && (inB r 313 327 || inB r 377 381)
def refF (r : Int) : List Int := if q1 r = true then [r + 32] else if inB r 1024 1039 = true then [r + 80] else if q3 r = true then [r + 1] else if q4 r = true then [r + 1] else if r = 223 ∨ r = 7838 then [115, 115] else if r = 304 then [105, 775] else refL r fromL toL
theorem ref_1 : allB (fun r => refF r == foldU r) 13 0 = true := by decide +kernel
theorem ref_2 : allB (fun r => refF r == foldU r) 9 8192 = true := by decide +kernel
theorem inB_out {r lo hi : Int} (h : r < 65 ∨ 8492 ≤ r) (h1 : 65 ≤ lo) (h2 : hi ≤ 8491) : inB r lo hi = false := by
  unfold inB; by_cases c : lo ≤ r
  · rw [decide_eq_false (show ¬ r ≤ hi by omega), Bool.and_false]
  · rw [decide_eq_false c, Bool.false_and]
theorem ref_fold (r : Int) : refF r = foldU r := by
  by_cases h : r < 65 ∨ 8492 ≤ r
  · (have e : foldU r = [r] := by unfold foldU; rw [fold_out r h]; rfl); (have n : ∀ k : Int, 65 ≤ k → k ≤ 8491 → (r = k) = False := fun k h1 h2 => by simp; omega); rw [e]; unfold refF q1 q3 q4; simp [inB_out h, n, refL, fromL, toL]
  · by_cases h2 : r < 8192
    · exact eq_of_beq (allB_at _ 13 0 ref_1 r (by omega) (by omega))
    · exact eq_of_beq (allB_at _ 9 8192 ref_2 r (by omega) (by omega))
end Go.Proofs.YthffpkdadffinaaDoor.Vtf
namespace Go.Proofs.YthffpkdadffinaaDoor.Vtg
set_option linter.unusedVariables false
set_option linter.unusedSimpArgs false
open Go.RowKit YthffpkdadffinaaDoorW.PrintWords Hp X Vtf
open Go.Proofs.YthffpkdadffinaaDoor.Vin (inB in_some)
theorem q1_range {r : Int} (h : q1 r = true) : 65 ≤ r ∧ r ≤ 1071 := by
  unfold q1 inB at h; simp at h; omega
theorem nums_at (ys : List Int) (j : Nat) (h : j < ys.length) : (nums .i32 ys).toArray[j]? = some (.int .i32 ys[j]) := by simp [nums, h]
theorem inB_range {r lo hi : Int} (h : inB r lo hi = true) : lo ≤ r ∧ r ≤ hi := by
  unfold inB at h
  simpa using h
theorem q3_range {r : Int} (h : q3 r = true) : 256 ≤ r ∧ r ≤ 7828 := by
  unfold q3 inB at h; simp at h; omega
theorem q4_range {r : Int} (h : q4 r = true) : 313 ≤ r ∧ r ≤ 381 := by
  unfold q4 inB at h; simp at h; omega
set_option maxRecDepth 100000 in
set_option maxHeartbeats 8000000 in
theorem refFoldP (w : World) (r : Int) : Calls Tryd.prog 75 #[.int .i32 r] w fun e w' => ∃ v, e = .returned v ∧ KI.R T3 w' w.heap.size (fun _ => True) v (refF r) ∧ Below w.heap.size w w' := by
  have HB := Aside0.mk (Below.refl w.heap.size w); go_enter Tryd.func75, Tryd.ntmps75; go_upto_region 2 with (fail); go_cut [14] (fun v14 wq => v14 = .bool (q1 r) ∧ Aside0 (Below w.heap.size w wq))
  case first =>
    cases h0 : inB r 65 90 with
    | true =>
      go_wp2_with (go_at_call 88; go_must (refine (InP _ _ _ _).mono ?_; rintro E w1 ⟨rfl, p1⟩; have n0_ := Aside0.mk (below_step HB.out p1); clear HB p1; have HB := n0_; clear n0_)); go_meet
      case rel => exact ⟨by simp [q1, h0], HB⟩
    | false =>
      cases h1 : inB r 192 214 with
      | true =>
        go_wp2_with (go_at_call 88; go_must (refine (InP _ _ _ _).mono ?_; rintro E w1 ⟨rfl, p1⟩; have n0_ := Aside0.mk (below_step HB.out p1); clear HB p1; have HB := n0_; clear n0_)); go_meet
        case rel => exact ⟨by simp [q1, h0, h1], HB⟩
      | false =>
        cases h2 : inB r 216 222 with
        | true =>
          go_wp2_with (go_at_call 88; go_must (refine (InP _ _ _ _).mono ?_; rintro E w1 ⟨rfl, p1⟩; have n0_ := Aside0.mk (below_step HB.out p1); clear HB p1; have HB := n0_; clear n0_)); go_meet
          case rel => exact ⟨by simp [q1, h0, h1, h2], HB⟩
        | false =>
          cases h3 : inB r 913 929 with
          | true =>
            go_wp2_with (go_at_call 88; go_must (refine (InP _ _ _ _).mono ?_; rintro E w1 ⟨rfl, p1⟩; have n0_ := Aside0.mk (below_step HB.out p1); clear HB p1; have HB := n0_; clear n0_)); go_meet
            case rel => exact ⟨by simp [q1, h0, h1, h2, h3], HB⟩
          | false =>
            cases h4 : inB r 931 937 with
            | true =>
              go_wp2_with (go_at_call 88; go_must (refine (InP _ _ _ _).mono ?_; rintro E w1 ⟨rfl, p1⟩; have n0_ := Aside0.mk (below_step HB.out p1); clear HB p1; have HB := n0_; clear n0_)); go_meet
              case rel => exact ⟨by simp [q1, h0, h1, h2, h3, h4], HB⟩
            | false =>
              cases h5 : inB r 1040 1071 with
              | true =>
                go_wp2_with (go_at_call 88; go_must (refine (InP _ _ _ _).mono ?_; rintro E w1 ⟨rfl, p1⟩; have n0_ := Aside0.mk (below_step HB.out p1); clear HB p1; have HB := n0_; clear n0_)); go_meet
                case rel => exact ⟨by simp [q1, h0, h1, h2, h3, h4, h5], HB⟩
              | false =>
                go_wp2_with (go_at_call 88; go_must (refine (InP _ _ _ _).mono ?_; rintro E w1 ⟨rfl, p1⟩; have n0_ := Aside0.mk (below_step HB.out p1); clear HB p1; have HB := n0_; clear n0_)); go_meet
                case rel => exact ⟨by simp [q1, h0, h1, h2, h3, h4, h5], HB⟩
  case rest =>
    obtain ⟨rfl, HB⟩ := hcut
    cases c14 : q1 r with
    | true =>
      (have hwr : IntKind.i32.wrap (r + 32) = r + 32 := by have := q1_range c14; simp [IntKind.wrap, IntKind.bits, IntKind.signed]; omega); go_wp2_with ((with_reducible refine gate_dst (N := 39) rfl ?_); refine Kd.R_lit KI w.heap.size T3 ?hg (N := 39) ?hd (xs := [r + 32]) (inner := [.int .i32 (r + 32)]) (ok := fun _ => True) (okp := fun _ => True) ?hr (Reps.one (show Kd.M KI _ _ _ _ [_] from rfl) (Reps.none _ _)) (fun _ hk => hk) trivial HB.out HB.out.size (by simp) ?_; (case hd => rfl); (case hg => rfl); (case hr => first | (go_simp; done) | (go_simp; rfl)); intro v9 w9 hR9 hb9 hg_ hnew_; have R9 := Aside0.mk hR9; have B9 := Aside0.mk hb9; clear hR9 hb9 hg_ hnew_); go_ret; exact ⟨v9, rfl, by unfold refF; simp only [c14, if_true]; exact R9.out, B9.out⟩
    | false =>
      go_upto_region 4 with (fail); go_cut [40] (fun vq wq => vq = .bool (inB r 1024 1039) ∧ Aside0 (Below w.heap.size w wq))
      case first =>
        go_wp2_with (go_at_call 88; go_must (refine (InP _ _ _ _).mono ?_; rintro E w1 ⟨rfl, p1⟩; have n0_ := Aside0.mk (below_step HB.out p1); clear HB p1; have HB := n0_; clear n0_)); go_meet
        case rel => exact ⟨rfl, HB⟩
      case rest =>
        obtain ⟨rfl, HB⟩ := hcut
        cases c40 : inB r 1024 1039 with
        | true =>
            (have hwr : IntKind.i32.wrap (r + 80) = r + 80 := by have := inB_range c40; simp [IntKind.wrap, IntKind.bits, IntKind.signed]; omega); go_wp2_with ((with_reducible refine gate_dst (N := 45) rfl ?_); refine Kd.R_lit KI w.heap.size T3 ?hg (N := 45) ?hd (xs := [r + 80]) (inner := [.int .i32 (r + 80)]) (ok := fun _ => True) (okp := fun _ => True) ?hr (Reps.one (show Kd.M KI _ _ _ _ [_] from rfl) (Reps.none _ _)) (fun _ hk => hk) trivial HB.out HB.out.size (by simp) ?_; (case hd => rfl); (case hg => rfl); (case hr => first | (go_simp; done) | (go_simp; rfl)); intro v9 w9 hR9 hb9 hg_ hnew_; have R9 := Aside0.mk hR9; have B9 := Aside0.mk hb9; clear hR9 hb9 hg_ hnew_); go_ret; exact ⟨v9, rfl, by unfold refF; simp only [c14, Bool.false_eq_true, if_false, c40, if_true]; exact R9.out, B9.out⟩
        | false =>
          have C40 := Aside0.mk c40
          skip
          go_upto_region 6 with (fail); go_cut [3, 46] (fun ve vq wq => ve = .bool (Int.tmod r 2 == 0) ∧ vq = .bool (q3 r) ∧ Aside0 (Below w.heap.size w wq))
          case first =>
            cases hp : (Int.tmod r 2 == 0) with
            | false =>
              go_wp2; go_meet
              case rel => exact ⟨by rw [hp], by simp [q3, hp], HB⟩
            | true =>
              cases h0 : inB r 256 302 with
              | true =>
                go_wp2_with (go_at_call 88; go_must (refine (InP _ _ _ _).mono ?_; rintro E w1 ⟨rfl, p1⟩; have n0_ := Aside0.mk (below_step HB.out p1); clear HB p1; have HB := n0_; clear n0_)); go_meet
                case rel => exact ⟨by rw [hp], by simp [q3, h0, hp], HB⟩
              | false =>
                cases h1 : inB r 306 310 with
                | true =>
                  go_wp2_with (go_at_call 88; go_must (refine (InP _ _ _ _).mono ?_; rintro E w1 ⟨rfl, p1⟩; have n0_ := Aside0.mk (below_step HB.out p1); clear HB p1; have HB := n0_; clear n0_)); go_meet
                  case rel => exact ⟨by rw [hp], by simp [q3, h0, h1, hp], HB⟩
                | false =>
                  cases h2 : inB r 330 374 with
                  | true =>
                    go_wp2_with (go_at_call 88; go_must (refine (InP _ _ _ _).mono ?_; rintro E w1 ⟨rfl, p1⟩; have n0_ := Aside0.mk (below_step HB.out p1); clear HB p1; have HB := n0_; clear n0_)); go_meet
                    case rel => exact ⟨by rw [hp], by simp [q3, h0, h1, h2, hp], HB⟩
                  | false =>
                    cases h3 : inB r 7680 7828 with
                    | true =>
                      go_wp2_with (go_at_call 88; go_must (refine (InP _ _ _ _).mono ?_; rintro E w1 ⟨rfl, p1⟩; have n0_ := Aside0.mk (below_step HB.out p1); clear HB p1; have HB := n0_; clear n0_)); go_meet
                      case rel => exact ⟨by rw [hp], by simp [q3, h0, h1, h2, h3, hp], HB⟩
                    | false =>
                      go_wp2_with (go_at_call 88; go_must (refine (InP _ _ _ _).mono ?_; rintro E w1 ⟨rfl, p1⟩; have n0_ := Aside0.mk (below_step HB.out p1); clear HB p1; have HB := n0_; clear n0_)); go_meet
                      case rel => exact ⟨by rw [hp], by simp [q3, h0, h1, h2, h3, hp], HB⟩
          case rest =>
            obtain ⟨rfl, rfl, HB⟩ := hcut
            cases c46 : q3 r with
            | true =>
                (have hwr : IntKind.i32.wrap (r + 1) = r + 1 := by have := q3_range c46; simp [IntKind.wrap, IntKind.bits, IntKind.signed]; omega); go_wp2_with ((with_reducible refine gate_dst (N := 66) rfl ?_); refine Kd.R_lit KI w.heap.size T3 ?hg (N := 66) ?hd (xs := [r + 1]) (inner := [.int .i32 (r + 1)]) (ok := fun _ => True) (okp := fun _ => True) ?hr (Reps.one (show Kd.M KI _ _ _ _ [_] from rfl) (Reps.none _ _)) (fun _ hk => hk) trivial HB.out HB.out.size (by simp) ?_; (case hd => rfl); (case hg => rfl); (case hr => first | (go_simp; done) | (go_simp; rfl)); intro v9 w9 hR9 hb9 hg_ hnew_; have R9 := Aside0.mk hR9; have B9 := Aside0.mk hb9; clear hR9 hb9 hg_ hnew_); go_ret; exact ⟨v9, rfl, by unfold refF; simp only [c14, Bool.false_eq_true, if_false, c40, c46, if_true]; exact R9.out, B9.out⟩
            | false =>
              have C46 := Aside0.mk c46
              skip
              go_upto_region 8 with (fail); go_cut [4, 67] (fun ve vq wq => ve = .bool (Int.tmod r 2 == 1) ∧ vq = .bool (q4 r) ∧ Aside0 (Below w.heap.size w wq))
              case first =>
                cases hp : (Int.tmod r 2 == 1) with
                | false =>
                  go_wp2; go_meet
                  case rel => exact ⟨by rw [hp], by simp [q4, hp], HB⟩
                | true =>
                  cases h0 : inB r 313 327 with
                  | true =>
                    go_wp2_with (go_at_call 88; go_must (refine (InP _ _ _ _).mono ?_; rintro E w1 ⟨rfl, p1⟩; have n0_ := Aside0.mk (below_step HB.out p1); clear HB p1; have HB := n0_; clear n0_)); go_meet
                    case rel => exact ⟨by rw [hp], by simp [q4, h0, hp], HB⟩
                  | false =>
                    cases h1 : inB r 377 381 with
                    | true =>
                      go_wp2_with (go_at_call 88; go_must (refine (InP _ _ _ _).mono ?_; rintro E w1 ⟨rfl, p1⟩; have n0_ := Aside0.mk (below_step HB.out p1); clear HB p1; have HB := n0_; clear n0_)); go_meet
                      case rel => exact ⟨by rw [hp], by simp [q4, h0, h1, hp], HB⟩
                    | false =>
                      go_wp2_with (go_at_call 88; go_must (refine (InP _ _ _ _).mono ?_; rintro E w1 ⟨rfl, p1⟩; have n0_ := Aside0.mk (below_step HB.out p1); clear HB p1; have HB := n0_; clear n0_)); go_meet
                      case rel => exact ⟨by rw [hp], by simp [q4, h0, h1, hp], HB⟩
              case rest =>
                obtain ⟨rfl, rfl, HB⟩ := hcut
                cases c67 : q4 r with
                | true =>
                    (have hwr : IntKind.i32.wrap (r + 1) = r + 1 := by have := q4_range c67; simp [IntKind.wrap, IntKind.bits, IntKind.signed]; omega); go_wp2_with ((with_reducible refine gate_dst (N := 79) rfl ?_); refine Kd.R_lit KI w.heap.size T3 ?hg (N := 79) ?hd (xs := [r + 1]) (inner := [.int .i32 (r + 1)]) (ok := fun _ => True) (okp := fun _ => True) ?hr (Reps.one (show Kd.M KI _ _ _ _ [_] from rfl) (Reps.none _ _)) (fun _ hk => hk) trivial HB.out HB.out.size (by simp) ?_; (case hd => rfl); (case hg => rfl); (case hr => first | (go_simp; done) | (go_simp; rfl)); intro v9 w9 hR9 hb9 hg_ hnew_; have R9 := Aside0.mk hR9; have B9 := Aside0.mk hb9; clear hR9 hb9 hg_ hnew_); go_ret; exact ⟨v9, rfl, by unfold refF; simp only [c14, Bool.false_eq_true, if_false, c40, c46, c67, if_true]; exact R9.out, B9.out⟩
                | false =>
                  have C67 := Aside0.mk c67
                  skip
                  go_upto_region 10 with (fail); go_cut [80] (fun vq wq => vq = .bool ((r == 223 || r == 7838)) ∧ Aside0 (Below w.heap.size w wq))
                  case first =>
                    cases hq : (r == 223) with
                    | true =>
                      go_wp2; go_meet
                      case rel => exact ⟨by first | rfl | simp [hq], HB⟩
                    | false =>
                      go_wp2; go_meet
                      case rel => exact ⟨by first | rfl | simp [hq], HB⟩
                  case rest =>
                    obtain ⟨rfl, HB⟩ := hcut
                    cases c80 : (r == 223 || r == 7838) with
                    | true =>
                        (have he : r = 223 ∨ r = 7838 := by simpa using c80); go_wp2_with ((with_reducible refine gate_dst (N := 87) rfl ?_); refine Kd.R_lit KI w.heap.size T3 ?hg (N := 87) ?hd (xs := [115, 115]) (inner := [.int .i32 (115), .int .i32 (115)]) (ok := fun _ => True) (okp := fun _ => True) ?hr (Reps.one (show Kd.M KI _ _ _ _ [_] from rfl) (Reps.one (show Kd.M KI _ _ _ _ [_] from rfl) (Reps.none _ _))) (fun _ hk => hk) trivial HB.out HB.out.size (by simp) ?_; (case hd => rfl); (case hg => rfl); (case hr => first | (go_simp; done) | (go_simp; rfl)); intro v9 w9 hR9 hb9 hg_ hnew_; have R9 := Aside0.mk hR9; have B9 := Aside0.mk hb9; clear hR9 hb9 hg_ hnew_); go_ret; exact ⟨v9, rfl, by unfold refF; simp only [c14, Bool.false_eq_true, if_false, c40, c46, c67, if_pos he]; exact R9.out, B9.out⟩
                    | false =>
                      have C80 := Aside0.mk c80
                      skip
                      go_upto_region 12 with (fail); go_cut [88] (fun vq wq => vq = .bool ((r == 304)) ∧ Aside0 (Below w.heap.size w wq))
                      case first =>
                        go_wp2; go_meet
                        case rel => exact ⟨rfl, HB⟩
                      case rest =>
                        obtain ⟨rfl, HB⟩ := hcut
                        cases c88 : (r == 304) with
                        | true =>
                            (have he : r = 304 := by simpa using c88); (have h8 : ¬ (r = 223 ∨ r = 7838) := by omega); go_wp2_with ((with_reducible refine gate_dst (N := 91) rfl ?_); refine Kd.R_lit KI w.heap.size T3 ?hg (N := 91) ?hd (xs := [105, 775]) (inner := [.int .i32 (105), .int .i32 (775)]) (ok := fun _ => True) (okp := fun _ => True) ?hr (Reps.one (show Kd.M KI _ _ _ _ [_] from rfl) (Reps.one (show Kd.M KI _ _ _ _ [_] from rfl) (Reps.none _ _))) (fun _ hk => hk) trivial HB.out HB.out.size (by simp) ?_; (case hd => rfl); (case hg => rfl); (case hr => first | (go_simp; done) | (go_simp; rfl)); intro v9 w9 hR9 hb9 hg_ hnew_; have R9 := Aside0.mk hR9; have B9 := Aside0.mk hb9; clear hR9 hb9 hg_ hnew_); go_ret; exact ⟨v9, rfl, by unfold refF; simp only [c14, Bool.false_eq_true, if_false, c40, c46, c67, if_neg h8, if_pos he]; exact R9.out, B9.out⟩
                        | false =>
                          have C88 := Aside0.mk c88
                          skip
                          (have h80 : ¬ r = 223 ∧ ¬ r = 7838 := by simpa using c80); (have h88 : ¬ r = 304 := by simpa using c88); have HF := Aside0.mk (show refF r = refL r fromL toL by unfold refF; simp only [c14, c40, c46, c67, Bool.false_eq_true, if_false]; rw [if_neg (fun h => h.elim h80.1 h80.2), if_neg h88]); clear c14 c40 c46 c67 c80 c88 h80 h88; go_upto_region 16 with (fail); obtain ⟨w5, hw5⟩ : ∃ w5, w5 = (wc.alloc (.cells #[.int .i32 181, .int .i32 376, .int .i32 383, .int .i32 837, .int .i32 902, .int .i32 962, .int .i32 8486, .int .i32 8490, .int .i32 8491] T3)).alloc (.cells #[.int .i32 956, .int .i32 255, .int .i32 115, .int .i32 953, .int .i32 940, .int .i32 963, .int .i32 969, .int .i32 107, .int .i32 229] T3) := ⟨_, rfl⟩; obtain ⟨g, hg⟩ : ∃ g, g = wc.heap.size := ⟨_, rfl⟩; have b5 : w5.heap[g]? = some (.cells (nums .i32 fromL).toArray T3 (0, 0)) := by rw [hw5, hg]; exact blk_below (heap_alloc_new wc _) (below_alloc (Below.refl _ _) _)
                          have b6 : w5.heap[g + 1]? = some (.cells (nums .i32 toL).toArray T3 (0, 0)) := by
                            have h := heap_alloc_new (wc.alloc (.cells #[.int .i32 181, .int .i32 376, .int .i32 383, .int .i32 837, .int .i32 902, .int .i32 962, .int .i32 8486, .int .i32 8490, .int .i32 8491] T3)) (.cells #[.int .i32 956, .int .i32 255, .int .i32 115, .int .i32 953, .int .i32 940, .int .i32 963, .int .i32 969, .int .i32 107, .int .i32 229] T3); rw [World.size_alloc] at h; rw [hw5, hg]; exact h
                          have HB5 := Aside0.mk (show Below w.heap.size w w5 by rw [hw5]; exact below_alloc (below_alloc HB.out _) _); rw [← hw5, ← hg]; have B5 := Aside0.mk b5; have B6 := Aside0.mk b6; clear hw5 hg b5 b6 HB; go_wp2; go_loopw [7] (fun iv wr => ∃ i : Nat, i ≤ 9 ∧ iv = .int .i64 i ∧ Aside0 (refF r = refL r (fromL.drop i) (toL.drop i)) ∧ Aside0 (Below w5.heap.size w5 wr)) (fun iv _ => 9 - (intOf iv).toNat)
                          case atStart => exact ⟨0, Nat.zero_le _, rfl, ⟨HF.out⟩, ⟨Below.refl _ _⟩⟩
                          case round =>
                            clear HF; obtain ⟨i, hi, rfl, HF, HW⟩ := hrel; have HB := Aside0.mk (below_step HB5.out HW.out); by_cases hlt : i < 9
                            · have hd : decide ((i : Int) < 9) = true := decide_eq_true (by omega); have hd' : decide (i < 9) = true := decide_eq_true hlt; have k5 := blk_below B5.out HW.out; have k6 := blk_below B6.out HW.out; have z5 := (blk_cell k5 i).trans (nums_at fromL i (show i < fromL.length from hlt)); have z6 := (blk_cell k6 i).trans (nums_at toL i (show i < toL.length from hlt)); have hf := HF.out; rw [List.drop_eq_getElem_cons (show i < fromL.length from hlt), List.drop_eq_getElem_cons (show i < toL.length from hlt), refL] at hf; obtain ⟨f, hf0⟩ : ∃ f, f = fromL[i]'(show i < fromL.length from hlt) := ⟨_, rfl⟩; obtain ⟨t, ht0⟩ : ∃ t, t = toL[i]'(show i < toL.length from hlt) := ⟨_, rfl⟩; rw [← hf0] at z5 hf; rw [← ht0] at z6 hf; clear hf0 ht0 k5 k6; by_cases hrf : r = f
                              · rw [if_pos hrf] at hf; have HF2 := Aside0.mk hf; (have hb : (r == f) = true := by rw [hrf]; exact beq_self_eq_true _); clear hf hrf HF; go_wp2_with ((with_reducible refine gate_dst (N := 110) rfl ?_); refine Kd.R_lit KI w.heap.size T3 ?hg (N := 110) ?hd (xs := [t]) (inner := [.int .i32 (t)]) (ok := fun _ => True) (okp := fun _ => True) ?hr (Reps.one (show Kd.M KI _ _ _ _ [_] from rfl) (Reps.none _ _)) (fun _ hk => hk) trivial HB.out HB.out.size (by simp) ?_; (case hd => rfl); (case hg => rfl); (case hr => first | (go_simp; done) | (go_simp; rfl)); intro v9 w9 hR9 hb9 hg_ hnew_; have R9 := Aside0.mk hR9; have B9 := Aside0.mk hb9; clear hR9 hb9 hg_ hnew_); go_ret; exact ⟨v9, rfl, by rw [HF2.out]; exact R9.out, B9.out⟩
                              · rw [if_neg hrf] at hf; have HF2 := Aside0.mk hf; have hb : (r == f) = false := beq_eq_false_iff_ne.2 hrf; clear hf hrf HF; go_wp2; go_roundw
                                case rel => exact ⟨i + 1, by omega, by go_num, HF2, HW⟩
                                case measure => simp [intOf]; omega
                            · have hd : decide ((i : Int) < 9) = false := decide_eq_false (by omega); have hd' : decide (i < 9) = false := decide_eq_false hlt; (obtain rfl : i = 9 := by omega); have HF2 := Aside0.mk (show refF r = [r] from HF.out); clear HF hlt; go_wp2_with ((with_reducible refine gate_dst (N := 112) rfl ?_); refine Kd.R_lit KI w.heap.size T3 ?hg (N := 112) ?hd (xs := [r]) (inner := [.int .i32 (r)]) (ok := fun _ => True) (okp := fun _ => True) ?hr (Reps.one (show Kd.M KI _ _ _ _ [_] from rfl) (Reps.none _ _)) (fun _ hk => hk) trivial HB.out HB.out.size (by simp) ?_; (case hd => rfl); (case hg => rfl); (case hr => first | (go_simp; done) | (go_simp; rfl)); intro v9 w9 hR9 hb9 hg_ hnew_; have R9 := Aside0.mk hR9; have B9 := Aside0.mk hb9; clear hR9 hb9 hg_ hnew_); go_ret; exact ⟨v9, rfl, by rw [HF2.out]; exact R9.out, B9.out⟩
end Go.Proofs.YthffpkdadffinaaDoor.Vtg
namespace Go.Proofs.YthffpkdadffinaaDoor.X
set_option linter.unusedVariables false
set_option linter.unusedSimpArgs false
open Go.RowKit YthffpkdadffinaaDoorW.PrintWords
def tremaref02_Fold.f (r : Int) : Option (List Int) := some (Vef.foldU r)
theorem tremaref02_Fold.calls (a0 : Int) (r : List Int) (w : World) (h : tremaref02_Fold.f a0 = some r) : Calls Tryd.prog 75 #[.int .i32 a0] w fun e w' => ∃ v0_ : Value, e = .returned v0_ ∧ Kd.R (Kd.int .i32) 21 w' w.heap.size (fun _ => True) v0_ r ∧ Below w.heap.size w w' := by
  have h2 := Vtg.refFoldP w a0; rw [Vtf.ref_fold, Option.some.inj h] at h2; exact h2
end Go.Proofs.YthffpkdadffinaaDoor.X
namespace Go.Proofs.YthffpkdadffinaaDoor.X
open Go.RowKit YthffpkdadffinaaDoorW.PrintWords YthffpkdadffinaaDoorW.PrintLast YthffpkdadffinaaDoorW.PrintMore
attribute [local go_sem] max2_int min2_int max_two min_two max_three min_three max_four min_four   
set_option linter.unusedVariables false
set_option linter.unusedSimpArgs false
def words_Key.l0 : Nat → List Int → List Int → Int → Int → Option (ByteArray)
 | 0, _, _, _, _ => none
 | k + 1, x3, x9, x10, x11 => if x11 < x10 then (if 0 ≤ x11 then (if x11 < (x9.length : Int) then ((ucd_Fold.f k (rd x9 x11)).bind fun t358 => (if x3.length + t358.length < 35184372088832 then (words_Key.l0 k (x3 ++ t358) x9 x10 (wrap64 (x11 + 1))) else (none))) else (none)) else (none)) else ((norm_Normal.f k x3).bind fun t364 => ((utf_Encode.f k t364).bind fun t367 => (some (strOfNums t367))))
def words_Key.f (k : Nat) (l0 : List Int) : Option (ByteArray) := (norm_Runes.f (strOfNums l0)).bind fun t351 => ((norm_Normal.f k t351).bind fun t354 => (words_Key.l0 k ([] : List Int) t354 (t354.length : Int) 0))
theorem words_Key.mono_l : ∀ k, (∀ y0 y1 y2 y3, LeO (words_Key.l0 k y0 y1 y2 y3) (words_Key.l0 (k + 1) y0 y1 y2 y3))
 | 0 => fun _ _ _ _ r h => by simp [words_Key.l0] at h
 | k + 1 => by
  have ih0 := words_Key.mono_l k
  ·intro y0 y1 y2 y3; unfold words_Key.l0; repeat' first | (with_reducible exact ih0 _ _ _ _) | (with_reducible exact norm_Normal.mono _ _) | (with_reducible exact ucd_Fold.mono _ _) | (with_reducible exact utf_Encode.mono _ _) | (with_reducible exact LeO.refl _) | (with_reducible exact LeO.none _) | (with_reducible refine LeO.ite ?_ ?_) | (with_reducible refine LeO.bind ?_ (fun _ => ?_)) | exact ih0 _ _ _ _ | exact norm_Normal.mono _ _ | exact ucd_Fold.mono _ _ | exact utf_Encode.mono _ _ | exact LeO.none _ | refine LeO.ite ?_ ?_ | refine LeO.bind ?_ (fun _ => ?_)
theorem words_Key.mono : ∀ a0 k, LeO (words_Key.f k a0) (words_Key.f (k + 1) a0) := by
 intro a0 k; have ih0 := words_Key.mono_l k; unfold words_Key.f; repeat' first | (with_reducible exact ih0 _ _ _ _) | (with_reducible exact norm_Normal.mono _ _) | (with_reducible exact ucd_Fold.mono _ _) | (with_reducible exact utf_Encode.mono _ _) | (with_reducible exact LeO.refl _) | (with_reducible exact LeO.none _) | (with_reducible refine LeO.ite ?_ ?_) | (with_reducible refine LeO.bind ?_ (fun _ => ?_)) | exact ih0 _ _ _ _ | exact norm_Normal.mono _ _ | exact ucd_Fold.mono _ _ | exact utf_Encode.mono _ _ | exact LeO.none _ | refine LeO.ite ?_ ?_ | refine LeO.bind ?_ (fun _ => ?_)
set_option maxHeartbeats 8000000 in
set_option maxRecDepth 100000 in
theorem words_Key.calls (k : Nat) (A0 : Option Addr) (c0 : Nat) (l0 : List Int) (r : ByteArray) (w : World) (hr0 : Kd.C (Kd.int .u8) w A0 l0.length l0) (hc0 : l0.length ≤ c0) (h : words_Key.f k l0 = some r) (hG0 : Va.G w) :
  Calls Tryd.prog 32 #[.slice A0 l0.length c0] w fun e w' => e = .returned (.string r) ∧ Below w.heap.size w w' := by
 have HG := Aside0.mk hG0; clear hG0; have HR0 := Aside0.mk hr0; have HC0 := Aside0.mk hc0; clear hr0 hc0; have HB := Aside0.mk (Below.refl w.heap.size w); have H : ((norm_Runes.f (strOfNums l0)).bind fun t351 => ((norm_Normal.f k t351).bind fun t354 => (words_Key.l0 k ([] : List Int) t354 (t354.length : Int) 0))) = some r := h; clear h; replace H := Option.bind_eq_some_iff.mp H; obtain ⟨t351, A20, H⟩ := H; (try dsimp only at H); have A2 := Aside0.mk A20; clear A20; replace H := Option.bind_eq_some_iff.mp H; obtain ⟨t354, A30, H⟩ := H; (try dsimp only at H); have A3 := Aside0.mk A30; clear A30; have H' := Aside0.mk H; clear H; have hcv4 := Kd.C_string (P := Tryd.prog) (A := A0) (c := c0) Tryd.underlying23 Tryd.underlying5 Tryd.underlying9 HR0.out; go_enter Tryd.func32, Tryd.ntmps32; go_wp2_with (first | ((with_reducible refine gate_callee (f := 72) rfl ?_); refine goesL_ (some 8) rfl rfl Tryd.func72 (by kernel_rfl) rfl #[.string (strOfNums l0)] rfl (by (try simp only [List.map_toArray, List.map_cons, List.map_nil]); first | done | rfl | (simp only [List.length_drop, List.length_take]; rfl)) ?_; (with_reducible refine (norm_Runes.calls (strOfNums l0) t351 _ A2.out).mono ?_); rintro e w5 ⟨v352, rfl, ho0, hb⟩; refine ⟨_, rfl, ?_⟩; have n0_ := Aside0.mk (Kd.R_lower ho0 (below_size (by repeat (first | (with_reducible first | exact HB.out | apply below_alloc | apply pw_below_drewN | apply below_drew1) | exact HB.out)))); have n1_ := Aside0.mk (below_step (by repeat (first | (with_reducible first | exact HB.out | apply below_alloc | apply pw_below_drewN | apply below_drew1) | exact HB.out)) hb); clear HB; have HO353 := n0_; have HB := n1_; clear n0_ n1_; (try clear hb); (try clear hb2); (try clear hk); (try clear hi); (try clear ho0); obtain ⟨Ao6, co6, eo6⟩ := Kd.R_slice HO353.out; subst eo6) | ((with_reducible refine gate_callee (f := 71) rfl ?_); refine goesL_ (some 9) rfl rfl Tryd.func71 (by kernel_rfl) rfl #[.slice Ao6 t351.length co6] rfl (by (try simp only [List.map_toArray, List.map_cons, List.map_nil]); first | done | rfl | (simp only [List.length_drop, List.length_take]; rfl)) ?_; (with_reducible refine (norm_Normal.calls k _ _ t351 t354 _ ?side1 ?side2 A3.out (by first | exact HG.out | exact Va.G.below HG.out (by repeat (first | (with_reducible first | exact HB.out | apply below_alloc | apply pw_below_drewN | apply below_drew1) | exact HB.out)))).mono ?_); (case side1 => repeat (first | exact (Kd.R_reads' HO353.out).2.2 | (with_reducible refine Kd.C_alloc ?_ _) | (with_reducible refine Kd.C_drewN ?_ _) | (with_reducible refine Kd.C_drew ?_))); (case side2 => exact (Kd.R_reads' HO353.out).2.1); rintro e w7 ⟨v355, rfl, ho0, hb⟩; refine ⟨_, rfl, ?_⟩; have n0_ := Aside0.mk (Kd.R_elder' (by (with_reducible repeat (first | apply Kd.R_alloc | apply Kd.R_drewN | apply Kd.R_drew)); exact HO353.out) (Kd.R_base ho0) hb); have n1_ := Aside0.mk (Kd.R_lower (Kd.R_new' ho0 (Kd.R_lt (by (with_reducible repeat (first | apply Kd.R_alloc | apply Kd.R_drewN | apply Kd.R_drew)); exact HO353.out))) (below_size (by repeat (first | (with_reducible first | exact HB.out | apply below_alloc | apply pw_below_drewN | apply below_drew1) | exact HB.out)))); have n2_ := Aside0.mk (below_step (by repeat (first | (with_reducible first | exact HB.out | apply below_alloc | apply pw_below_drewN | apply below_drew1) | exact HB.out)) hb); clear HO353; clear HB; have HO353 := n0_; have HO356 := n1_; have HB := n2_; clear n0_ n1_ n2_; (try clear hb); (try clear hb2); (try clear hk); (try clear hi); (try clear ho0); obtain ⟨Ao8, co8, eo8⟩ := Kd.R_slice HO356.out; subst eo8)); go_loopg [3, 11] k (fun kq v3 v11 w' => ∃ (x3_1 : List Int) (x11_1 : Int), v11 = .int .i64 x11_1 ∧ Aside0 (words_Key.l0 kq x3_1 t354 (t354.length : Int) x11_1 = some r) ∧ Aside0 (kq ≤ k) ∧ Aside0 (Kd.R (Kd.int .i32) 21 w' w.heap.size (fun k_ => some k_ ≠ ((.slice Ao8 t354.length co8) : Value).ownBlock) v3 x3_1) ∧ Aside0 (Kd.R (Kd.int .i32) 21 w' w.heap.size (fun k_ => some k_ ≠ (v3 : Value).ownBlock) (.slice Ao8 t354.length co8) t354) ∧ Aside0 (Below w.heap.size w w'))
 case atStart => exact ⟨(([] : List Int)), (0), (by first | rfl | (simp; done) | (simp [*]; done)), H', ⟨Nat.le_refl _⟩, ⟨by first | exact Kd.R_nil _ _ _ _ _ | exact Kd.N_nil _ _ _ _ _ | exact Kd.V_nil _ _ _ _ _ | exact Kd.Q_nil _ _ _ _ _ | exact Kd.S_nil _ _ _ _ _⟩, ⟨by (with_reducible repeat (first | apply Kd.R_alloc | apply Kd.R_drewN | apply Kd.R_drew)); exact Kd.R_mono HO356.out (fun _ hk => (by simp [Value.ownBlock]))⟩, ⟨by repeat (first | (with_reducible first | exact HB.out | apply below_alloc | apply pw_below_drewN | apply below_drew1) | exact HB.out)⟩⟩
 case round =>
  clear H'; (try clear p2); (try clear c3); (try clear hcv4); (try clear c7); obtain ⟨x3_1, x11_1, rfl, HA, HK1, HO_3, HO_9, HB⟩ := hrel
  cases gk with
  | zero => exact absurd HA.out (by simp [words_Key.l0])
  | succ k1 =>
   have H := HA.out; clear HA; simp only [words_Key.l0] at H; by_cases c9 : x11_1 < (t354.length : Int)
   ·rw [if_pos c9] at H; have c9b0 : decide (x11_1 < (t354.length : Int)) = true := decide_eq_true c9; clear c9; by_cases c10 : 0 ≤ x11_1
    ·rw [if_pos c10] at H; have c10b0 : decide (0 ≤ x11_1) = true := decide_eq_true c10; clear c10; by_cases c11 : x11_1 < (t354.length : Int)
     ·rw [if_pos c11] at H; have c11b0 : decide (x11_1 < (t354.length : Int)) = true := decide_eq_true c11; clear c11; replace H := Option.bind_eq_some_iff.mp H; obtain ⟨t358, A120, H⟩ := H; (try dsimp only at H); have A12 := Aside0.mk A120; clear A120; by_cases c13 : x3_1.length + t358.length < 35184372088832
      ·rw [if_pos c13] at H; have LMc13 := Aside0.mk c13; clear c13; obtain ⟨y361, hy361⟩ : ∃ y_ : List Int, y_ = (x3_1 ++ t358) := ⟨_, rfl⟩; (replace H : (words_Key.l0 k1 y361 t354 (t354.length : Int) (wrap64 (x11_1 + 1))) = some r := by first | (rw [hy361]; with_reducible exact H) | (have H2_ := (Option.bind_some _ _).symm.trans H; rw [hy361]; with_reducible exact H2_) | (have H2_ := (Option.bind_some _ _).symm.trans H; with_reducible exact H2_) | with_reducible exact H | (rw [hy361]; exact H) | exact H); have Ny361 := Aside0.mk hy361; clear hy361; have H' := Aside0.mk H; clear H; have p357 : 0 ≤ (x11_1 : Int) := of_decide_eq_true (by first | (with_reducible assumption) | assumption); have q357 : x11_1 < (t354.length : Int) := of_decide_eq_true (by first | (with_reducible assumption) | assumption); obtain ⟨ad357, e357, hx357_0⟩ := Kd.at_int (Kd.R_reads' HO_9.out).2.2 x11_1 p357 q357; cases e357; replace p357 := eq_true p357; replace q357 := eq_true q357; go_wp2_with (first | ((with_reducible refine gate_callee (f := 58) rfl ?_); refine goesL_ (some 17) rfl rfl Tryd.func58 (by kernel_rfl) rfl #[.int .i32 (rd t354 x11_1)] rfl (by (try simp only [List.map_toArray, List.map_cons, List.map_nil]); first | done | rfl | (simp only [List.length_drop, List.length_take]; rfl)) ?_; (with_reducible refine (ucd_Fold.calls k1 (rd t354 x11_1) t358 _ A12.out).mono ?_); rintro e w14 ⟨v359, rfl, ho0, hb⟩; refine ⟨_, rfl, ?_⟩; have n0_ := Aside0.mk (Kd.R_elder' (by (with_reducible repeat (first | apply Kd.R_alloc | apply Kd.R_drewN | apply Kd.R_drew)); exact HO_3.out) (Kd.R_base ho0) hb); have n1_ := Aside0.mk (Kd.R_elder' (by (with_reducible repeat (first | apply Kd.R_alloc | apply Kd.R_drewN | apply Kd.R_drew)); exact HO_9.out) (Kd.R_base ho0) hb); have n2_ := Aside0.mk (Kd.R_lower (Kd.R_new' (Kd.R_new' ho0 (Kd.R_lt (by (with_reducible repeat (first | apply Kd.R_alloc | apply Kd.R_drewN | apply Kd.R_drew)); exact HO_3.out))) (Kd.R_lt (by (with_reducible repeat (first | apply Kd.R_alloc | apply Kd.R_drewN | apply Kd.R_drew)); exact HO_9.out))) (below_size (by repeat (first | (with_reducible first | exact HB.out | apply below_alloc | apply pw_below_drewN | apply below_drew1) | exact HB.out)))); have n3_ := Aside0.mk (below_step (by repeat (first | (with_reducible first | exact HB.out | apply below_alloc | apply pw_below_drewN | apply below_drew1) | exact HB.out)) hb); clear HO_3; clear HO_9; clear HB; have HO_3 := n0_; have HO_9 := n1_; have HO360 := n2_; have HB := n3_; clear n0_ n1_ n2_ n3_; (try clear hb); (try clear hb2); (try clear hk); (try clear hi); (try clear ho0); obtain ⟨Ao16, co16, eo16⟩ := Kd.R_slice HO360.out; subst eo16) | ((with_reducible refine gate_builtin (b := .append) (xs := #[.tmp 15, .tmp 17]) rfl ?_); at_builtin; refine Kd.R_append_rows (Kd.int .i32) (w0 := w) w.heap.size rfl (.tmp 15) (.tmp 17) 42 21 (.int .i32 0) 4 rfl Tryd.underlying42 info21 rfl (by decide) (by omega) u3 x3_1 t358 _ _ _ (fun k_ => some k_ ≠ (.slice (some ad357) t354.length co8 : Value).ownBlock ∧ some k_ ≠ (.slice Ao16 t358.length co16 : Value).ownBlock) (fun _ => False) rfl rfl ?aO ?aR (fun _ _ h => h) (fun _ h => h.elim) ?aF ?aB ?aS ?aL ?_; (case aR => repeat (first | exact (Kd.R_reads' HO360.out).2.2 | (with_reducible refine Kd.C_alloc ?_ _) | (with_reducible refine Kd.C_drewN ?_ _) | (with_reducible refine Kd.C_drew ?_))); (case aB => exact (by repeat (first | (with_reducible first | exact HB.out | apply below_alloc | apply pw_below_drewN | apply below_drew1) | exact HB.out))); (case aF => exact (fun k_ hk => ⟨Kd.fresh' (Kd.R_lt (by (with_reducible repeat (first | apply Kd.R_alloc | apply Kd.R_drewN | apply Kd.R_drew)); exact HO_9.out)) k_ hk, Kd.fresh' (Kd.R_lt (by (with_reducible repeat (first | apply Kd.R_alloc | apply Kd.R_drewN | apply Kd.R_drew)); exact HO360.out)) k_ hk⟩)); (case aO => exact (by (with_reducible repeat (first | apply Kd.R_alloc | apply Kd.R_drewN | apply Kd.R_drew)); exact HO_3.out)); (case aS => exact (below_size (by repeat (first | (with_reducible first | exact HB.out | apply below_alloc | apply pw_below_drewN | apply below_drew1) | exact HB.out)))); (case aL => have := LMc13.out; omega); intro v362 w15 ho hb hg hat; rw [← Ny361.out] at ho; have n0_ := Aside0.mk (Kd.R_after (ok := (fun k_ => some k_ ≠ (.slice Ao16 t358.length co16 : Value).ownBlock)) (by (with_reducible repeat (first | apply Kd.R_alloc | apply Kd.R_drewN | apply Kd.R_drew)); exact Kd.R_mono HO_9.out (fun _ hk => ⟨hk.2, hk.1⟩)) hg hat); have n1_ := Aside0.mk (Kd.R_after (ok := (fun k_ => some k_ ≠ (.slice (some ad357) t354.length co8 : Value).ownBlock)) (by (with_reducible repeat (first | apply Kd.R_alloc | apply Kd.R_drewN | apply Kd.R_drew)); exact Kd.R_mono HO360.out (fun _ hk => ⟨hk.2, hk.1.2⟩)) hg hat); have n2_ := Aside0.mk (hb); have n3_ := Aside0.mk (ho); clear HO_9; clear HO360; clear HB; clear HO_3; have HO_9 := n0_; have HO360 := n1_; have HB := n2_; have HO363 := n3_; clear n0_ n1_ n2_ n3_; clear ho hb hg hat)); go_roundg k1
       case measure => have := HK1.out; omega
       case rel => exact ⟨(y361), (wrap64 (x11_1 + 1)), (by first | rfl | (simp; done) | (simp [*]; done)), H', ⟨by have := HK1.out; omega⟩, ⟨by (with_reducible repeat (first | apply Kd.R_alloc | apply Kd.R_drewN | apply Kd.R_drew)); exact Kd.R_mono HO363.out (fun _ hk => hk.1)⟩, ⟨by (with_reducible repeat (first | apply Kd.R_alloc | apply Kd.R_drewN | apply Kd.R_drew)); exact Kd.R_mono HO_9.out (fun _ hk => hk.2)⟩, ⟨by repeat (first | (with_reducible first | exact HB.out | apply below_alloc | apply pw_below_drewN | apply below_drew1) | exact HB.out)⟩⟩
      ·rw [if_neg c13] at H; exact absurd H (by simp)
     ·rw [if_neg c11] at H; exact absurd H (by simp)
    ·rw [if_neg c10] at H; exact absurd H (by simp)
   ·rw [if_neg c9] at H; have c9b0 : decide (x11_1 < (t354.length : Int)) = false := decide_eq_false c9; clear c9; replace H := Option.bind_eq_some_iff.mp H; obtain ⟨t364, A170, H⟩ := H; (try dsimp only at H); have A17 := Aside0.mk A170; clear A170; replace H := Option.bind_eq_some_iff.mp H; obtain ⟨t367, A180, H⟩ := H; replace H : (some (strOfNums t367)) = some r := H; have A18 := Aside0.mk A180; clear A180; obtain rfl := Option.some.inj H; obtain ⟨Ao19, co19, eo19⟩ := Kd.R_slice HO_3.out; subst eo19; go_wp2_with (first | ((with_reducible refine gate_callee (f := 71) rfl ?_); refine goesL_ (some 21) rfl rfl Tryd.func71 (by kernel_rfl) rfl #[.slice Ao19 x3_1.length co19] rfl (by (try simp only [List.map_toArray, List.map_cons, List.map_nil]); first | done | rfl | (simp only [List.length_drop, List.length_take]; rfl)) ?_; (with_reducible refine (norm_Normal.calls k1 _ _ x3_1 t364 _ ?side1 ?side2 A17.out (by first | exact HG.out | exact Va.G.below HG.out (by repeat (first | (with_reducible first | exact HB.out | apply below_alloc | apply pw_below_drewN | apply below_drew1) | exact HB.out)))).mono ?_); (case side1 => repeat (first | exact (Kd.R_reads' HO_3.out).2.2 | (with_reducible refine Kd.C_alloc ?_ _) | (with_reducible refine Kd.C_drewN ?_ _) | (with_reducible refine Kd.C_drew ?_))); (case side2 => exact (Kd.R_reads' HO_3.out).2.1); rintro e w20 ⟨v365, rfl, ho0, hb⟩; refine ⟨_, rfl, ?_⟩; have n0_ := Aside0.mk (Kd.R_elder' (by (with_reducible repeat (first | apply Kd.R_alloc | apply Kd.R_drewN | apply Kd.R_drew)); exact HO_3.out) (Kd.R_base ho0) hb); have n1_ := Aside0.mk (Kd.R_elder' (by (with_reducible repeat (first | apply Kd.R_alloc | apply Kd.R_drewN | apply Kd.R_drew)); exact HO_9.out) (Kd.R_base ho0) hb); have n2_ := Aside0.mk (Kd.R_lower (Kd.R_new' (Kd.R_new' ho0 (Kd.R_lt (by (with_reducible repeat (first | apply Kd.R_alloc | apply Kd.R_drewN | apply Kd.R_drew)); exact HO_3.out))) (Kd.R_lt (by (with_reducible repeat (first | apply Kd.R_alloc | apply Kd.R_drewN | apply Kd.R_drew)); exact HO_9.out))) (below_size (by repeat (first | (with_reducible first | exact HB.out | apply below_alloc | apply pw_below_drewN | apply below_drew1) | exact HB.out)))); have n3_ := Aside0.mk (below_step (by repeat (first | (with_reducible first | exact HB.out | apply below_alloc | apply pw_below_drewN | apply below_drew1) | exact HB.out)) hb); clear HO_3; clear HO_9; clear HB; have HO_3 := n0_; have HO_9 := n1_; have HO366 := n2_; have HB := n3_; clear n0_ n1_ n2_ n3_; (try clear hb); (try clear hb2); (try clear hk); (try clear hi); (try clear ho0); obtain ⟨Ao21, co21, eo21⟩ := Kd.R_slice HO366.out; subst eo21) | ((with_reducible refine gate_callee (f := 73) rfl ?_); refine goesL_ (some 22) rfl rfl Tryd.func73 (by kernel_rfl) rfl #[.slice Ao21 t364.length co21] rfl (by (try simp only [List.map_toArray, List.map_cons, List.map_nil]); first | done | rfl | (simp only [List.length_drop, List.length_take]; rfl)) ?_; (with_reducible refine (utf_Encode.calls k1 _ _ t364 t367 _ ?side1 ?side2 A18.out).mono ?_); (case side1 => repeat (first | exact (Kd.R_reads' HO366.out).2.2 | (with_reducible refine Kd.C_alloc ?_ _) | (with_reducible refine Kd.C_drewN ?_ _) | (with_reducible refine Kd.C_drew ?_))); (case side2 => exact (Kd.R_reads' HO366.out).2.1); rintro e w22 ⟨v368, rfl, ho0, hb⟩; refine ⟨_, rfl, ?_⟩; have n0_ := Aside0.mk (Kd.R_below (by (with_reducible repeat (first | apply Kd.R_alloc | apply Kd.R_drewN | apply Kd.R_drew)); exact HO_3.out) hb); have n1_ := Aside0.mk (Kd.R_below (by (with_reducible repeat (first | apply Kd.R_alloc | apply Kd.R_drewN | apply Kd.R_drew)); exact HO_9.out) hb); have n2_ := Aside0.mk (Kd.R_below (by (with_reducible repeat (first | apply Kd.R_alloc | apply Kd.R_drewN | apply Kd.R_drew)); exact HO366.out) hb); have n3_ := Aside0.mk (Kd.R_lower ho0 (below_size (by repeat (first | (with_reducible first | exact HB.out | apply below_alloc | apply pw_below_drewN | apply below_drew1) | exact HB.out)))); have n4_ := Aside0.mk (below_step (by repeat (first | (with_reducible first | exact HB.out | apply below_alloc | apply pw_below_drewN | apply below_drew1) | exact HB.out)) hb); clear HO_3; clear HO_9; clear HO366; clear HB; have HO_3 := n0_; have HO_9 := n1_; have HO366 := n2_; have HO369 := n3_; have HB := n4_; clear n0_ n1_ n2_ n3_ n4_; (try clear hb); (try clear hb2); (try clear hk); (try clear hi); (try clear ho0); have hcv23 := own_string (P := Tryd.prog) Tryd.underlying23 Tryd.underlying5 Tryd.underlying9 (Kd.own_of_R HO369.out))); go_ret; exact ⟨by first | rfl | (simp [errW_none, errW_some] <;> rfl) | (simp [*, errW_none, errW_some] <;> rfl), by repeat (first | (with_reducible first | exact HB.out | apply below_alloc | apply pw_below_drewN | apply below_drew1) | exact HB.out)⟩
end Go.Proofs.YthffpkdadffinaaDoor.X
namespace Go.Proofs.YthffpkdadffinaaDoor.X
open Go.RowKit YthffpkdadffinaaDoorW.PrintWords YthffpkdadffinaaDoorW.PrintLast YthffpkdadffinaaDoorW.PrintMore
attribute [local go_sem] max2_int min2_int max_two min_two max_three min_three max_four min_four   
set_option linter.unusedVariables false
set_option linter.unusedSimpArgs false
def words_kind.f (a0 : ByteArray) : Option (Int) := (norm_Runes.f a0).bind fun t370 => (if (t370.length : Int) = 0 then (some 0) else (if 0 < (t370.length : Int) then ((ucd_Category.f (rd t370 0)).bind fun t374 => (if (rd t370 0) = 95 then (some 3) else (if t374 = 1 then (some 1) else (if t374 = 3 then (some 2) else (some 0))))) else (none)))
set_option maxHeartbeats 8000000 in
set_option maxRecDepth 100000 in
theorem words_kind.calls (a0 : ByteArray) (r : Int) (w : World) (h : words_kind.f a0 = some r) :
  Calls Tryd.prog 90 #[.string a0] w fun e w' => e = .returned (.int .i64 r) ∧ Below w.heap.size w w' := by
 have HB := Aside0.mk (Below.refl w.heap.size w); have H : ((norm_Runes.f a0).bind fun t370 => (if (t370.length : Int) = 0 then (some 0) else (if 0 < (t370.length : Int) then ((ucd_Category.f (rd t370 0)).bind fun t374 => (if (rd t370 0) = 95 then (some 3) else (if t374 = 1 then (some 1) else (if t374 = 3 then (some 2) else (some 0))))) else (none)))) = some r := h; clear h; replace H := Option.bind_eq_some_iff.mp H; obtain ⟨t370, A20, H⟩ := H; (try dsimp only at H); have A2 := Aside0.mk A20; clear A20; by_cases c3 : (t370.length : Int) = 0
 ·rw [if_pos c3] at H; have c3b0 : ((t370.length : Int) == 0) = true := beq_iff_eq.mpr c3; have c3b1 : ((t370.length : Int) != 0) = false := bne_eq_false_iff_eq.mpr c3; clear c3; obtain rfl := Option.some.inj H; go_enter Tryd.func90, Tryd.ntmps90; go_wp2_with (first | ((with_reducible refine gate_callee (f := 72) rfl ?_); refine goesL_ (some 6) rfl rfl Tryd.func72 (by kernel_rfl) rfl #[.string a0] rfl (by (try simp only [List.map_toArray, List.map_cons, List.map_nil]); first | done | rfl | (simp only [List.length_drop, List.length_take]; rfl)) ?_; (with_reducible refine (norm_Runes.calls a0 t370 _ A2.out).mono ?_); rintro e w4 ⟨v371, rfl, ho0, hb⟩; refine ⟨_, rfl, ?_⟩; have n0_ := Aside0.mk (Kd.R_lower ho0 (below_size (by repeat (first | (with_reducible first | exact HB.out | apply below_alloc | apply pw_below_drewN | apply below_drew1) | exact HB.out)))); have n1_ := Aside0.mk (below_step (by repeat (first | (with_reducible first | exact HB.out | apply below_alloc | apply pw_below_drewN | apply below_drew1) | exact HB.out)) hb); clear HB; have HO372 := n0_; have HB := n1_; clear n0_ n1_; (try clear hb); (try clear hb2); (try clear hk); (try clear hi); (try clear ho0); obtain ⟨Ao5, co5, eo5⟩ := Kd.R_slice HO372.out; subst eo5)); go_ret; exact ⟨by first | rfl | (simp [errW_none, errW_some] <;> rfl) | (simp [*, errW_none, errW_some] <;> rfl), by repeat (first | (with_reducible first | exact HB.out | apply below_alloc | apply pw_below_drewN | apply below_drew1) | exact HB.out)⟩
 ·rw [if_neg c3] at H; have c3b0 : ((t370.length : Int) == 0) = false := beq_eq_false_iff_ne.mpr c3; have c3b1 : ((t370.length : Int) != 0) = true := bne_iff_ne.mpr c3; (have c3b2 : ¬ (t370 = []) := fun h_ => c3 (by rw [h_]; rfl)); by_cases c6 : 0 < (t370.length : Int)
  ·rw [if_pos c6] at H; have c6b0 : decide (0 < (t370.length : Int)) = true := decide_eq_true c6; have c6b1 : decide (0 < t370.length) = true := decide_eq_true (by omega); clear c6; replace H := Option.bind_eq_some_iff.mp H; obtain ⟨t374, A70, H⟩ := H; (try dsimp only at H); have A7 := Aside0.mk A70; clear A70; by_cases c8 : (rd t370 0) = 95
   ·rw [if_pos c8] at H; have c8b0 : ((rd t370 0) == 95) = true := beq_iff_eq.mpr c8; have c8b1 : ((rd t370 0) != 95) = false := bne_eq_false_iff_eq.mpr c8; clear c8; obtain rfl := Option.some.inj H; go_enter Tryd.func90, Tryd.ntmps90; go_wp2_with (first | ((with_reducible refine gate_callee (f := 72) rfl ?_); refine goesL_ (some 6) rfl rfl Tryd.func72 (by kernel_rfl) rfl #[.string a0] rfl (by (try simp only [List.map_toArray, List.map_cons, List.map_nil]); first | done | rfl | (simp only [List.length_drop, List.length_take]; rfl)) ?_; (with_reducible refine (norm_Runes.calls a0 t370 _ A2.out).mono ?_); rintro e w9 ⟨v371, rfl, ho0, hb⟩; refine ⟨_, rfl, ?_⟩; have n0_ := Aside0.mk (Kd.R_lower ho0 (below_size (by repeat (first | (with_reducible first | exact HB.out | apply below_alloc | apply pw_below_drewN | apply below_drew1) | exact HB.out)))); have n1_ := Aside0.mk (below_step (by repeat (first | (with_reducible first | exact HB.out | apply below_alloc | apply pw_below_drewN | apply below_drew1) | exact HB.out)) hb); clear HB; have HO372 := n0_; have HB := n1_; clear n0_ n1_; (try clear hb); (try clear hb2); (try clear hk); (try clear hi); (try clear ho0); obtain ⟨Ao10, co10, eo10⟩ := Kd.R_slice HO372.out; subst eo10; have p373 : 0 ≤ (0 : Int) := (by omega); have q373 : 0 < (t370.length : Int) := of_decide_eq_true (by first | (with_reducible assumption) | assumption); obtain ⟨ad373, e373, hx373_0⟩ := Kd.at_int (Kd.R_reads' HO372.out).2.2 0 p373 q373; cases e373; have qi373 : (0 < t370.length) = True := eq_true (by omega); (try rw [show ((0 : Int)).toNat = 0 from rfl] at hx373_0); (try rw [Addr.add_zero'] at hx373_0); replace p373 := eq_true p373; replace q373 := eq_true q373) | ((with_reducible refine gate_callee (f := 25) rfl ?_); refine goesL_ (some 13) rfl rfl Tryd.func25 (by kernel_rfl) rfl #[.int .i32 (rd t370 0)] rfl (by (try simp only [List.map_toArray, List.map_cons, List.map_nil]); first | done | rfl | (simp only [List.length_drop, List.length_take]; rfl)) ?_; (with_reducible refine (ucd_Category.calls (rd t370 0) t374 _ A7.out).mono ?_); rintro e w11 ⟨rfl, hb⟩; refine ⟨_, rfl, ?_⟩; have n0_ := Aside0.mk (Kd.R_below (by (with_reducible repeat (first | apply Kd.R_alloc | apply Kd.R_drewN | apply Kd.R_drew)); exact HO372.out) hb); have n1_ := Aside0.mk (below_step (by repeat (first | (with_reducible first | exact HB.out | apply below_alloc | apply pw_below_drewN | apply below_drew1) | exact HB.out)) hb); clear HO372; clear HB; have HO372 := n0_; have HB := n1_; clear n0_ n1_; (try clear hb); (try clear hb2); (try clear hk); (try clear hi); have p375 : 0 ≤ (0 : Int) := (by omega); have q375 : 0 < (t370.length : Int) := of_decide_eq_true (by first | (with_reducible assumption) | assumption); obtain ⟨ad375, e375, hx375_0⟩ := Kd.at_int (Kd.R_reads' HO372.out).2.2 0 p375 q375; obtain rfl : ad373 = ad375 := (by injection e375); have qi375 : (0 < t370.length) = True := eq_true (by omega); (try rw [show ((0 : Int)).toNat = 0 from rfl] at hx375_0); (try rw [Addr.add_zero'] at hx375_0); replace p375 := eq_true p375; replace q375 := eq_true q375)); go_ret; exact ⟨by first | rfl | (simp [errW_none, errW_some] <;> rfl) | (simp [*, errW_none, errW_some] <;> rfl), by repeat (first | (with_reducible first | exact HB.out | apply below_alloc | apply pw_below_drewN | apply below_drew1) | exact HB.out)⟩
   ·rw [if_neg c8] at H; have c8b0 : ((rd t370 0) == 95) = false := beq_eq_false_iff_ne.mpr c8; have c8b1 : ((rd t370 0) != 95) = true := bne_iff_ne.mpr c8; by_cases c12 : t374 = 1
    ·rw [if_pos c12] at H; have c12b0 : (t374 == 1) = true := beq_iff_eq.mpr c12; have c12b1 : (t374 != 1) = false := bne_eq_false_iff_eq.mpr c12; clear c12; obtain rfl := Option.some.inj H; go_enter Tryd.func90, Tryd.ntmps90; go_wp2_with (first | ((with_reducible refine gate_callee (f := 72) rfl ?_); refine goesL_ (some 6) rfl rfl Tryd.func72 (by kernel_rfl) rfl #[.string a0] rfl (by (try simp only [List.map_toArray, List.map_cons, List.map_nil]); first | done | rfl | (simp only [List.length_drop, List.length_take]; rfl)) ?_; (with_reducible refine (norm_Runes.calls a0 t370 _ A2.out).mono ?_); rintro e w13 ⟨v371, rfl, ho0, hb⟩; refine ⟨_, rfl, ?_⟩; have n0_ := Aside0.mk (Kd.R_lower ho0 (below_size (by repeat (first | (with_reducible first | exact HB.out | apply below_alloc | apply pw_below_drewN | apply below_drew1) | exact HB.out)))); have n1_ := Aside0.mk (below_step (by repeat (first | (with_reducible first | exact HB.out | apply below_alloc | apply pw_below_drewN | apply below_drew1) | exact HB.out)) hb); clear HB; have HO372 := n0_; have HB := n1_; clear n0_ n1_; (try clear hb); (try clear hb2); (try clear hk); (try clear hi); (try clear ho0); obtain ⟨Ao14, co14, eo14⟩ := Kd.R_slice HO372.out; subst eo14; have p373 : 0 ≤ (0 : Int) := (by omega); have q373 : 0 < (t370.length : Int) := of_decide_eq_true (by first | (with_reducible assumption) | assumption); obtain ⟨ad373, e373, hx373_0⟩ := Kd.at_int (Kd.R_reads' HO372.out).2.2 0 p373 q373; cases e373; have qi373 : (0 < t370.length) = True := eq_true (by omega); (try rw [show ((0 : Int)).toNat = 0 from rfl] at hx373_0); (try rw [Addr.add_zero'] at hx373_0); replace p373 := eq_true p373; replace q373 := eq_true q373) | ((with_reducible refine gate_callee (f := 25) rfl ?_); refine goesL_ (some 13) rfl rfl Tryd.func25 (by kernel_rfl) rfl #[.int .i32 (rd t370 0)] rfl (by (try simp only [List.map_toArray, List.map_cons, List.map_nil]); first | done | rfl | (simp only [List.length_drop, List.length_take]; rfl)) ?_; (with_reducible refine (ucd_Category.calls (rd t370 0) t374 _ A7.out).mono ?_); rintro e w15 ⟨rfl, hb⟩; refine ⟨_, rfl, ?_⟩; have n0_ := Aside0.mk (Kd.R_below (by (with_reducible repeat (first | apply Kd.R_alloc | apply Kd.R_drewN | apply Kd.R_drew)); exact HO372.out) hb); have n1_ := Aside0.mk (below_step (by repeat (first | (with_reducible first | exact HB.out | apply below_alloc | apply pw_below_drewN | apply below_drew1) | exact HB.out)) hb); clear HO372; clear HB; have HO372 := n0_; have HB := n1_; clear n0_ n1_; (try clear hb); (try clear hb2); (try clear hk); (try clear hi); have p375 : 0 ≤ (0 : Int) := (by omega); have q375 : 0 < (t370.length : Int) := of_decide_eq_true (by first | (with_reducible assumption) | assumption); obtain ⟨ad375, e375, hx375_0⟩ := Kd.at_int (Kd.R_reads' HO372.out).2.2 0 p375 q375; obtain rfl : ad373 = ad375 := (by injection e375); have qi375 : (0 < t370.length) = True := eq_true (by omega); (try rw [show ((0 : Int)).toNat = 0 from rfl] at hx375_0); (try rw [Addr.add_zero'] at hx375_0); replace p375 := eq_true p375; replace q375 := eq_true q375)); go_ret; exact ⟨by first | rfl | (simp [errW_none, errW_some] <;> rfl) | (simp [*, errW_none, errW_some] <;> rfl), by repeat (first | (with_reducible first | exact HB.out | apply below_alloc | apply pw_below_drewN | apply below_drew1) | exact HB.out)⟩
    ·rw [if_neg c12] at H; have c12b0 : (t374 == 1) = false := beq_eq_false_iff_ne.mpr c12; have c12b1 : (t374 != 1) = true := bne_iff_ne.mpr c12; by_cases c16 : t374 = 3
     ·rw [if_pos c16] at H; have c16b0 : (t374 == 3) = true := beq_iff_eq.mpr c16; have c16b1 : (t374 != 3) = false := bne_eq_false_iff_eq.mpr c16; clear c16; obtain rfl := Option.some.inj H; go_enter Tryd.func90, Tryd.ntmps90; go_wp2_with (first | ((with_reducible refine gate_callee (f := 72) rfl ?_); refine goesL_ (some 6) rfl rfl Tryd.func72 (by kernel_rfl) rfl #[.string a0] rfl (by (try simp only [List.map_toArray, List.map_cons, List.map_nil]); first | done | rfl | (simp only [List.length_drop, List.length_take]; rfl)) ?_; (with_reducible refine (norm_Runes.calls a0 t370 _ A2.out).mono ?_); rintro e w17 ⟨v371, rfl, ho0, hb⟩; refine ⟨_, rfl, ?_⟩; have n0_ := Aside0.mk (Kd.R_lower ho0 (below_size (by repeat (first | (with_reducible first | exact HB.out | apply below_alloc | apply pw_below_drewN | apply below_drew1) | exact HB.out)))); have n1_ := Aside0.mk (below_step (by repeat (first | (with_reducible first | exact HB.out | apply below_alloc | apply pw_below_drewN | apply below_drew1) | exact HB.out)) hb); clear HB; have HO372 := n0_; have HB := n1_; clear n0_ n1_; (try clear hb); (try clear hb2); (try clear hk); (try clear hi); (try clear ho0); obtain ⟨Ao18, co18, eo18⟩ := Kd.R_slice HO372.out; subst eo18; have p373 : 0 ≤ (0 : Int) := (by omega); have q373 : 0 < (t370.length : Int) := of_decide_eq_true (by first | (with_reducible assumption) | assumption); obtain ⟨ad373, e373, hx373_0⟩ := Kd.at_int (Kd.R_reads' HO372.out).2.2 0 p373 q373; cases e373; have qi373 : (0 < t370.length) = True := eq_true (by omega); (try rw [show ((0 : Int)).toNat = 0 from rfl] at hx373_0); (try rw [Addr.add_zero'] at hx373_0); replace p373 := eq_true p373; replace q373 := eq_true q373) | ((with_reducible refine gate_callee (f := 25) rfl ?_); refine goesL_ (some 13) rfl rfl Tryd.func25 (by kernel_rfl) rfl #[.int .i32 (rd t370 0)] rfl (by (try simp only [List.map_toArray, List.map_cons, List.map_nil]); first | done | rfl | (simp only [List.length_drop, List.length_take]; rfl)) ?_; (with_reducible refine (ucd_Category.calls (rd t370 0) t374 _ A7.out).mono ?_); rintro e w19 ⟨rfl, hb⟩; refine ⟨_, rfl, ?_⟩; have n0_ := Aside0.mk (Kd.R_below (by (with_reducible repeat (first | apply Kd.R_alloc | apply Kd.R_drewN | apply Kd.R_drew)); exact HO372.out) hb); have n1_ := Aside0.mk (below_step (by repeat (first | (with_reducible first | exact HB.out | apply below_alloc | apply pw_below_drewN | apply below_drew1) | exact HB.out)) hb); clear HO372; clear HB; have HO372 := n0_; have HB := n1_; clear n0_ n1_; (try clear hb); (try clear hb2); (try clear hk); (try clear hi); have p375 : 0 ≤ (0 : Int) := (by omega); have q375 : 0 < (t370.length : Int) := of_decide_eq_true (by first | (with_reducible assumption) | assumption); obtain ⟨ad375, e375, hx375_0⟩ := Kd.at_int (Kd.R_reads' HO372.out).2.2 0 p375 q375; obtain rfl : ad373 = ad375 := (by injection e375); have qi375 : (0 < t370.length) = True := eq_true (by omega); (try rw [show ((0 : Int)).toNat = 0 from rfl] at hx375_0); (try rw [Addr.add_zero'] at hx375_0); replace p375 := eq_true p375; replace q375 := eq_true q375)); go_ret; exact ⟨by first | rfl | (simp [errW_none, errW_some] <;> rfl) | (simp [*, errW_none, errW_some] <;> rfl), by repeat (first | (with_reducible first | exact HB.out | apply below_alloc | apply pw_below_drewN | apply below_drew1) | exact HB.out)⟩
     ·rw [if_neg c16] at H; have c16b0 : (t374 == 3) = false := beq_eq_false_iff_ne.mpr c16; have c16b1 : (t374 != 3) = true := bne_iff_ne.mpr c16; obtain rfl := Option.some.inj H; go_enter Tryd.func90, Tryd.ntmps90; go_wp2_with (first | ((with_reducible refine gate_callee (f := 72) rfl ?_); refine goesL_ (some 6) rfl rfl Tryd.func72 (by kernel_rfl) rfl #[.string a0] rfl (by (try simp only [List.map_toArray, List.map_cons, List.map_nil]); first | done | rfl | (simp only [List.length_drop, List.length_take]; rfl)) ?_; (with_reducible refine (norm_Runes.calls a0 t370 _ A2.out).mono ?_); rintro e w20 ⟨v371, rfl, ho0, hb⟩; refine ⟨_, rfl, ?_⟩; have n0_ := Aside0.mk (Kd.R_lower ho0 (below_size (by repeat (first | (with_reducible first | exact HB.out | apply below_alloc | apply pw_below_drewN | apply below_drew1) | exact HB.out)))); have n1_ := Aside0.mk (below_step (by repeat (first | (with_reducible first | exact HB.out | apply below_alloc | apply pw_below_drewN | apply below_drew1) | exact HB.out)) hb); clear HB; have HO372 := n0_; have HB := n1_; clear n0_ n1_; (try clear hb); (try clear hb2); (try clear hk); (try clear hi); (try clear ho0); obtain ⟨Ao21, co21, eo21⟩ := Kd.R_slice HO372.out; subst eo21; have p373 : 0 ≤ (0 : Int) := (by omega); have q373 : 0 < (t370.length : Int) := of_decide_eq_true (by first | (with_reducible assumption) | assumption); obtain ⟨ad373, e373, hx373_0⟩ := Kd.at_int (Kd.R_reads' HO372.out).2.2 0 p373 q373; cases e373; have qi373 : (0 < t370.length) = True := eq_true (by omega); (try rw [show ((0 : Int)).toNat = 0 from rfl] at hx373_0); (try rw [Addr.add_zero'] at hx373_0); replace p373 := eq_true p373; replace q373 := eq_true q373) | ((with_reducible refine gate_callee (f := 25) rfl ?_); refine goesL_ (some 13) rfl rfl Tryd.func25 (by kernel_rfl) rfl #[.int .i32 (rd t370 0)] rfl (by (try simp only [List.map_toArray, List.map_cons, List.map_nil]); first | done | rfl | (simp only [List.length_drop, List.length_take]; rfl)) ?_; (with_reducible refine (ucd_Category.calls (rd t370 0) t374 _ A7.out).mono ?_); rintro e w22 ⟨rfl, hb⟩; refine ⟨_, rfl, ?_⟩; have n0_ := Aside0.mk (Kd.R_below (by (with_reducible repeat (first | apply Kd.R_alloc | apply Kd.R_drewN | apply Kd.R_drew)); exact HO372.out) hb); have n1_ := Aside0.mk (below_step (by repeat (first | (with_reducible first | exact HB.out | apply below_alloc | apply pw_below_drewN | apply below_drew1) | exact HB.out)) hb); clear HO372; clear HB; have HO372 := n0_; have HB := n1_; clear n0_ n1_; (try clear hb); (try clear hb2); (try clear hk); (try clear hi); have p375 : 0 ≤ (0 : Int) := (by omega); have q375 : 0 < (t370.length : Int) := of_decide_eq_true (by first | (with_reducible assumption) | assumption); obtain ⟨ad375, e375, hx375_0⟩ := Kd.at_int (Kd.R_reads' HO372.out).2.2 0 p375 q375; obtain rfl : ad373 = ad375 := (by injection e375); have qi375 : (0 < t370.length) = True := eq_true (by omega); (try rw [show ((0 : Int)).toNat = 0 from rfl] at hx375_0); (try rw [Addr.add_zero'] at hx375_0); replace p375 := eq_true p375; replace q375 := eq_true q375)); go_ret; exact ⟨by first | rfl | (simp [errW_none, errW_some] <;> rfl) | (simp [*, errW_none, errW_some] <;> rfl), by repeat (first | (with_reducible first | exact HB.out | apply below_alloc | apply pw_below_drewN | apply below_drew1) | exact HB.out)⟩
  ·rw [if_neg c6] at H; exact absurd H (by simp)
end Go.Proofs.YthffpkdadffinaaDoor.X
namespace Go.Proofs.YthffpkdadffinaaDoor.X
open Go.RowKit YthffpkdadffinaaDoorW.PrintWords YthffpkdadffinaaDoorW.PrintLast YthffpkdadffinaaDoorW.PrintMore
attribute [local go_sem] max2_int min2_int max_two min_two max_three min_three max_four min_four   
set_option linter.unusedVariables false
set_option linter.unusedSimpArgs false
def words_joint.j0 : Nat → ByteArray → Bool → Option (Int)
 | 0, _, _ => none
 | k + 1, x3, x4 => if x4 = true then (some 1) else (if x3.toList = ([46] : List UInt8) then (some 2) else (if x3.toList = ([44] : List UInt8) then (some 2) else (some 0)))
def words_joint.f (k : Nat) (a0 : ByteArray) : Option (Int) := if a0.toList = ([39] : List UInt8) then (words_joint.j0 k a0 (a0.toList == ([39] : List UInt8))) else (if a0.toList = ([226, 128, 153] : List UInt8) then (words_joint.j0 k a0 (a0.toList == ([226, 128, 153] : List UInt8))) else (words_joint.j0 k a0 (a0.toList == ([194, 183] : List UInt8))))
theorem words_joint.mono_l : ∀ k, (∀ y0 y1, LeO (words_joint.j0 k y0 y1) (words_joint.j0 (k + 1) y0 y1))
 | 0 => fun _ _ r h => by simp [words_joint.j0] at h
 | k + 1 => by
  have ih0 := words_joint.mono_l k
  ·intro y0 y1; unfold words_joint.j0; repeat' first | (with_reducible exact ih0 _ _) | (with_reducible exact LeO.refl _) | (with_reducible exact LeO.none _) | (with_reducible refine LeO.ite ?_ ?_) | (with_reducible refine LeO.bind ?_ (fun _ => ?_)) | exact ih0 _ _ | exact LeO.none _ | refine LeO.ite ?_ ?_ | refine LeO.bind ?_ (fun _ => ?_)
theorem words_joint.mono : ∀ a0 k, LeO (words_joint.f k a0) (words_joint.f (k + 1) a0) := by
 intro a0 k; have ih0 := words_joint.mono_l k; unfold words_joint.f; repeat' first | (with_reducible exact ih0 _ _) | (with_reducible exact LeO.refl _) | (with_reducible exact LeO.none _) | (with_reducible refine LeO.ite ?_ ?_) | (with_reducible refine LeO.bind ?_ (fun _ => ?_)) | exact ih0 _ _ | exact LeO.none _ | refine LeO.ite ?_ ?_ | refine LeO.bind ?_ (fun _ => ?_)
set_option maxHeartbeats 8000000 in
set_option maxRecDepth 100000 in
theorem words_joint.calls (k : Nat) (a0 : ByteArray) (r : Int) (w : World) (h : words_joint.f k a0 = some r) :
  Calls Tryd.prog 91 #[.string a0] w fun e w' => e = .returned (.int .i64 r) ∧ Drawn0 w w' := by
 have H : (if a0.toList = ([39] : List UInt8) then (words_joint.j0 k a0 (a0.toList == ([39] : List UInt8))) else (if a0.toList = ([226, 128, 153] : List UInt8) then (words_joint.j0 k a0 (a0.toList == ([226, 128, 153] : List UInt8))) else (words_joint.j0 k a0 (a0.toList == ([194, 183] : List UInt8))))) = some r := h; clear h; have HC2 := Aside0.mk H; clear H; go_enter Tryd.func91, Tryd.ntmps91; go_upto_if 4 with (fail); go_cut [4] (fun v4 wc => ∃ (kq : Nat) (x4_1 : Bool), v4 = .bool x4_1 ∧ Aside0 (words_joint.j0 kq a0 x4_1 = some r) ∧ Aside0 (kq ≤ k) ∧ Drawn0 w wc)
 case first =>
  have H := HC2.out; clear HC2; by_cases c3 : a0.toList = ([39] : List UInt8)
  ·rw [if_pos c3] at H; have c3b0 : (a0.toList == ([39] : List UInt8)) = true := beq_iff_eq.mpr c3; have c3b1 : (a0.toList != ([39] : List UInt8)) = false := bne_eq_false_iff_eq.mpr c3; clear c3
   (first | rw [c3b0] | (simp only [i64_w, i32_w]; rw [c3b0]) | skip)
   have H' := Aside0.mk H; clear H; go_wp2; go_meet
   case rel => exact ⟨_, ((a0.toList == ([39] : List UInt8))), (by first | rfl | (simp; done) | (simp [*]; done)), H', ⟨by first | omega | exact Nat.le_refl _⟩, by repeat (first | exact Drawn0.refl _ | apply Drawn0.step)⟩
  ·rw [if_neg c3] at H; have c3b0 : (a0.toList == ([39] : List UInt8)) = false := beq_eq_false_iff_ne.mpr c3; have c3b1 : (a0.toList != ([39] : List UInt8)) = true := bne_iff_ne.mpr c3
   (first | rw [c3b0] | (simp only [i64_w, i32_w]; rw [c3b0]) | skip)
   by_cases c4 : a0.toList = ([226, 128, 153] : List UInt8)
   ·rw [if_pos c4] at H; have c4b0 : (a0.toList == ([226, 128, 153] : List UInt8)) = true := beq_iff_eq.mpr c4; have c4b1 : (a0.toList != ([226, 128, 153] : List UInt8)) = false := bne_eq_false_iff_eq.mpr c4; clear c4; have H' := Aside0.mk H; clear H; go_wp2; go_meet
    case rel => exact ⟨_, ((a0.toList == ([226, 128, 153] : List UInt8))), (by first | rfl | (simp; done) | (simp [*]; done)), H', ⟨by first | omega | exact Nat.le_refl _⟩, by repeat (first | exact Drawn0.refl _ | apply Drawn0.step)⟩
   ·rw [if_neg c4] at H; have c4b0 : (a0.toList == ([226, 128, 153] : List UInt8)) = false := beq_eq_false_iff_ne.mpr c4; have c4b1 : (a0.toList != ([226, 128, 153] : List UInt8)) = true := bne_iff_ne.mpr c4; have H' := Aside0.mk H; clear H; go_wp2; go_meet
    case rel => exact ⟨_, ((a0.toList == ([194, 183] : List UInt8))), (by first | rfl | (simp; done) | (simp [*]; done)), H', ⟨by first | omega | exact Nat.le_refl _⟩, by repeat (first | exact Drawn0.refl _ | apply Drawn0.step)⟩
 case rest =>
  clear HC2; (try clear p2); (try clear c3); (try clear c3b0); (try clear c3b1); (try clear c4); (try clear c4b0); (try clear c4b1); obtain ⟨kq, x4_1, rfl, HA, HJ1, ⟨mc1, rfl⟩⟩ := hcut
  cases kq with
  | zero => exact absurd HA.out (by simp [words_joint.j0])
  | succ kj1 =>
   have H := HA.out; clear HA; simp only [words_joint.j0] at H; by_cases c5 : x4_1 = true
   ·subst c5; rw [if_pos rfl] at H; obtain rfl := Option.some.inj H; go_wp2; go_ret; exact ⟨by first | rfl | (simp; done) | (simp [*]; done), by repeat (first | exact Drawn0.refl _ | apply Drawn0.step)⟩
   ·replace c5 := Bool.eq_false_iff.mpr c5; subst c5; rw [if_neg (show ¬ (false = true) by decide)] at H; by_cases c6 : a0.toList = ([46] : List UInt8)
    ·rw [if_pos c6] at H; have c6b0 : (a0.toList == ([46] : List UInt8)) = true := beq_iff_eq.mpr c6; have c6b1 : (a0.toList != ([46] : List UInt8)) = false := bne_eq_false_iff_eq.mpr c6; clear c6; obtain rfl := Option.some.inj H; go_wp2; go_ret; exact ⟨by first | rfl | (simp; done) | (simp [*]; done), by repeat (first | exact Drawn0.refl _ | apply Drawn0.step)⟩
    ·rw [if_neg c6] at H; have c6b0 : (a0.toList == ([46] : List UInt8)) = false := beq_eq_false_iff_ne.mpr c6; have c6b1 : (a0.toList != ([46] : List UInt8)) = true := bne_iff_ne.mpr c6; by_cases c7 : a0.toList = ([44] : List UInt8)
     ·rw [if_pos c7] at H; have c7b0 : (a0.toList == ([44] : List UInt8)) = true := beq_iff_eq.mpr c7; have c7b1 : (a0.toList != ([44] : List UInt8)) = false := bne_eq_false_iff_eq.mpr c7; clear c7; obtain rfl := Option.some.inj H; go_wp2; go_ret; exact ⟨by first | rfl | (simp; done) | (simp [*]; done), by repeat (first | exact Drawn0.refl _ | apply Drawn0.step)⟩
     ·rw [if_neg c7] at H; have c7b0 : (a0.toList == ([44] : List UInt8)) = false := beq_eq_false_iff_ne.mpr c7; have c7b1 : (a0.toList != ([44] : List UInt8)) = true := bne_iff_ne.mpr c7; obtain rfl := Option.some.inj H; go_wp2; go_ret; exact ⟨by first | rfl | (simp; done) | (simp [*]; done), by repeat (first | exact Drawn0.refl _ | apply Drawn0.step)⟩
end Go.Proofs.YthffpkdadffinaaDoor.X
