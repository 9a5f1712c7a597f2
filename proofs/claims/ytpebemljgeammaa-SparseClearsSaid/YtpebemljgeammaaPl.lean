/-
  sparse.Play: its answers are those of plain steps over a list.
-/
import Derived.Test.YtpebemljgeammaaSqint
import Derived.Test.YtpebemljgeammaaSrint
import Derived.Test.YtpebemljgeammaaStint
namespace Go.Proofs.Ytpebemljgeammaa.Pl
set_option linter.unusedVariables false
set_option linter.unusedSimpArgs false
open Go.RowKit Go.Proofs.YtpebemljgeammaaW.PrintWords Go.Proofs.Ytpebemljgeammaa.Hp Go.Proofs.Ytpebemljgeammaa.Sp0 Go.Proofs.Ytpebemljgeammaa.Spint

abbrev TS : Nat := 95
abbrev TI : Nat := 3

/-- One call's answer, and the list behind it. -/
def stepL (N : Nat) (xs : List Int) (o : Int × Int) : Int × List Int :=
  if o.1 = 1 then (if 0 ≤ o.2 ∧ o.2 < N ∧ o.2 ∉ xs then 1 else 0, addL N xs o.2)
  else if o.1 = 2 then (if o.2 ∈ xs then 1 else 0, xs)
  else if o.1 = 3 then (xs.length, xs)
  else if o.1 = 4 then (if 0 ≤ o.2 ∧ o.2 < xs.length then xs.getD o.2.toNat 0 else -1, xs)
  else if o.1 = 5 then (0, [])
  else (-2, xs)
/-- The answers of the first k calls, and the list behind them. -/
def runK (N : Nat) (ops : List (Int × Int)) : Nat → List Int × List Int
  | 0 => ([], [])
  | k + 1 => ((runK N ops k).1 ++ [(stepL N (runK N ops k).2 (ops.getD k (0, 0))).1], (stepL N (runK N ops k).2 (ops.getD k (0, 0))).2)
theorem runK_len (N : Nat) (ops : List (Int × Int)) : ∀ k, (runK N ops k).1.length = k
  | 0 => rfl
  | k + 1 => by simp [runK, runK_len N ops k]

def kOp : Kd (Int × Int) := Kd.pair (Kd.int .i64) (Kd.int .i64)
theorem op_at {w : World} {A : Option Addr} {n : Nat} {ops : List (Int × Int)} (h : kOp.C w A n ops) (j : Nat) (hj : j < n) :
    ∃ ad, A = some ad ∧ w.cell? (ad.add (j * 2)) = some (.int .i64 (ops.getD j (0, 0)).1) ∧ w.cell? ⟨(ad.add (j * 2)).block, (ad.add (j * 2)).off + 1, none⟩ = some (.int .i64 (ops.getD j (0, 0)).2) := by
  obtain ⟨ad, c, e, _, hK, hc0⟩ := Kd.C_get h (0, 0) (j : Int) (by omega) (by omega)
  have hc : ∀ i u, c[i]? = some u → w.cell? (ad.add (j * 2 + i)) = some u := by simpa [show kOp.sz = 2 from rfl] using hc0
  obtain ⟨_, _, rfl, rfl, rfl⟩ := hK
  exact ⟨ad, e, by simpa using hc 0 _ rfl, by rw [← add_field _ _ 1 (by omega)]; simpa using hc 1 _ rfl⟩

/-- What holds at the head of a round. -/
def Inv (w0 : World) (N : Nat) (ops : List (Int × Int)) (g k : Nat) (out : Value) (wr : World) : Prop :=
  ∃ ok : Nat → Prop, IsSet TS TI .i64 N (runK N ops k).2 g w0.heap.size ok wr ∧ wr.ownsRow w0.heap.size TI 1 out k (nums .i64 (runK N ops k).1) ∧ (∀ b, out.ownBlock = some b → ¬ ok b) ∧ (∀ b, ok b → w0.heap.size ≤ b) ∧ Below w0.heap.size w0 wr

/-- Behind the call. -/
def Mid (w0 : World) (N : Nat) (ops : List (Int × Int)) (g k : Nat) (out : Value) (x : Int) (W : World) : Prop :=
  ∃ ok : Nat → Prop, x = (stepL N (runK N ops k).2 (ops.getD k (0, 0))).1 ∧ IsSet TS TI .i64 N (runK N ops (k + 1)).2 g w0.heap.size ok W ∧ W.ownsRow w0.heap.size TI 1 out k (nums .i64 (runK N ops k).1) ∧ (∀ b, out.ownBlock = some b → ¬ ok b) ∧ (∀ b, ok b → w0.heap.size ≤ b) ∧ Below w0.heap.size w0 W

theorem Mid.next {w0 W w1 : World} {N g k : Nat} {ops : List (Int × Int)} {out v1 : Value} {x : Int} (h : Mid w0 N ops g k out x W)
    (hown : w1.ownsRow w0.heap.size TI 1 v1 ((runK N ops k).1 ++ [x]).length (nums .i64 ((runK N ops k).1 ++ [x]))) (hg : W.grownBy w1 out.ownBlock)
    (hat : v1.ownBlock = out.ownBlock ∨ ∃ b, v1.ownBlock = some b ∧ W.heap.size ≤ b) : Inv w0 N ops g (k + 1) v1 w1 := by
  obtain ⟨ok, rfl, hs, ho, hd, hb, hbl⟩ := h
  refine ⟨fun b => ok b ∧ b < W.heap.size, hs.bound.step (fun b hb hlt => hg.block b hlt (fun e => hd b e.symm hb.1)), by simpa [runK, runK_len] using hown, ?_, fun b h => hb b h.1, hbl.grown hg (by have := hs.facts; omega) (fun b h => (own_base ho b h))⟩
  intro b he ⟨h1, h2⟩
  rcases hat with ha | ⟨b', ha, hle⟩
  · exact hd b (ha ▸ he) h1
  · rw [ha] at he; injection he with he; omega

def PlayPost (w : World) (N : Nat) (ops : List (Int × Int)) (e : Ending) (w' : World) : Prop :=
  ∃ v1 v2, e = .returned (.tuple #[v1, v2]) ∧ w'.ownsRow w.heap.size TI 1 v1 ops.length (nums .i64 (runK N ops ops.length).1) ∧ w'.ownsRow w.heap.size TI 1 v2 (runK N ops ops.length).2.length (nums .i64 (runK N ops ops.length).2) ∧ Below w.heap.size w w'

theorem Inv.box {w0 wr : World} {N g k : Nat} {ops : List (Int × Int)} {out : Value} (h : Inv w0 N ops g k out wr) (o : Obj) :
    ∃ ok : Nat → Prop, IsSet TS TI .i64 N (runK N ops k).2 g w0.heap.size ok (wr.alloc o) ∧ (wr.alloc o).ownsRow w0.heap.size TI 1 out k (nums .i64 (runK N ops k).1) ∧ (∀ b, out.ownBlock = some b → ¬ ok b) ∧ (∀ b, ok b → w0.heap.size ≤ b ∧ b < wr.heap.size) ∧ Below w0.heap.size w0 (wr.alloc o) := by
  obtain ⟨ok, hs, ho, hd, hb, hbl⟩ := h
  have hf := hs.facts
  exact ⟨fun b => ok b ∧ b < wr.heap.size, hs.bound.step (fun b _ hlt => Below.heap_alloc _ _ _ hlt), ho.alloc _, fun b h1 h2 => hd b h1 h2.1, fun b hb' => ⟨hb b hb'.1, hb'.2⟩, hbl.alloc (by omega) _⟩

/-- Behind a call that leaves the set's list xs'. -/
theorem mid {w0 W W2 : World} {N g k B : Nat} {ops : List (Int × Int)} {out : Value} {x : Int} {xs' : List Int} {ok ok2 : Nat → Prop}
    (ho : W.ownsRow w0.heap.size TI 1 out k (nums .i64 (runK N ops k).1)) (hd : ∀ b, out.ownBlock = some b → ¬ ok b) (hb : ∀ b, ok b → w0.heap.size ≤ b) (hbl : Below w0.heap.size w0 W)
    (hs2 : IsSet TS TI .i64 N xs' g w0.heap.size ok2 W2) (hc : Chg ok W W2) (hk2 : ∀ b, ok2 b → ok b ∨ W.heap.size ≤ b) (hx : (x, xs') = stepL N (runK N ops k).2 (ops.getD k (0, 0))) :
    Mid w0 N ops g k out x W2 := by
  have e2 : xs' = (runK N ops (k + 1)).2 := by simp only [runK, ← hx]
  have e1 : x = (stepL N (runK N ops k).2 (ops.getD k (0, 0))).1 := by rw [← hx]
  subst e2
  refine ⟨ok2, e1, hs2, own_move ho (fun b hb' => hc.keep b (own_lt ho b hb') (hd b hb')), fun b h1 h2 => ?_, fun b h2 => ?_, hc.below_of hbl hb⟩
  · rcases hk2 b h2 with h3 | h3
    · exact hd b h1 h3
    · have := own_lt ho b h1; omega
  · rcases hk2 b h2 with h3 | h3
    · exact hb b h3
    · have := hbl.size; omega


theorem Mid.own {w0 W : World} {N g k : Nat} {ops : List (Int × Int)} {out : Value} {x : Int} (h : Mid w0 N ops g k out x W) : W.ownsRow w0.heap.size TI 1 out k (nums .i64 (runK N ops k).1) := by
  obtain ⟨_, _, _, h, _⟩ := h; exact h
theorem Mid.below {w0 W : World} {N g k : Nat} {ops : List (Int × Int)} {out : Value} {x : Int} (h : Mid w0 N ops g k out x W) : Below w0.heap.size w0 W := by
  obtain ⟨_, _, _, _, _, _, h⟩ := h; exact h
theorem Inv.below {w0 W : World} {N g k : Nat} {ops : List (Int × Int)} {out : Value} (h : Inv w0 N ops g k out W) : Below w0.heap.size w0 W := by
  obtain ⟨_, _, _, _, _, h⟩ := h; exact h
theorem Mid.base {w0 W : World} {N g k : Nat} {ops : List (Int × Int)} {out : Value} {x : Int} (h : Mid w0 N ops g k out x W) : w0.heap.size ≤ W.heap.size := h.below.size

set_option maxRecDepth 100000 in
set_option maxHeartbeats 4000000 in
theorem play (w : World) (A : Option Addr) (n c : Nat) (size : Int) (ops : List (Int × Int)) (hs : (Lit.int .i64 size).wf = true) (hA : kOp.C w A n ops) (hn8 : n * 8 ≤ 140737488355328)
    (hwf : ∀ j, j < n → (Lit.int .i64 (ops.getD j (0, 0)).2).wf = true) :
    Calls Try.prog 16 #[.int .i64 size, .slice A n c] w fun e w' => PlayPost w (setSize size) ops e w' := by
  have hm := Kd.C_max hA
  have hl := Kd.C_len hA
  have HA := Aside0.mk hA
  have HL := Aside0.mk hl
  have HW := Aside0.mk hwf
  clear hA hl hwf
  go_enter Try.func16, Try.ntmps16
  go_wp2_with (go_at_call 22; refine (New w size hs).mono ?_; rintro e w1 ⟨g, rfl, h1, h2⟩)
  have H1 := Aside0.mk h1
  have H2 := Aside0.mk h2
  clear h1 h2
  go_loopw [7, 17] (fun out i wr => ∃ k : Nat, k ≤ n ∧ i = .int .i64 k ∧ Aside0 (Inv w (setSize size) ops g k out wr)) (fun _ i _ => n - (intOf i).toNat)
  case atStart => exact ⟨0, Nat.zero_le _, rfl, ⟨_, H1.out, own_nil _ _ _ _, by simp [Value.ownBlock], fun _ h => h, H2.out⟩⟩
  case round =>
    obtain ⟨k, hk, rfl, HI⟩ := hrel
    by_cases hlt : k < n
    · have hd : decide (k < n) = true := by simpa using hlt
      obtain ⟨kd, v, ho⟩ : ∃ a b, ops.getD k (0, 0) = (a, b) := ⟨_, _, rfl⟩
      have hv := HW.out k hlt
      obtain ⟨ad, rfl, hc0, hc1⟩ := op_at HA.out k hlt
      rw [ho] at hv hc0 hc1
      simp only at hv hc0 hc1
      obtain ⟨ok, s1, s2, s3, s4, s5⟩ := HI.out.box (.cells #[.int .i64 kd, .int .i64 v] 28)
      have hbl : Below w.heap.size w wr := HI.out.below
      have hc0 := pw_cell_below hbl hc0
      have hc1 := pw_cell_below hbl hc1
      have H3 := Aside0.mk s1
      have HO := Aside0.mk s2
      have HD := Aside0.mk s3
      have HB := Aside0.mk s4
      have HL5 := Aside0.mk s5
      have HE := Aside0.mk ho
      have HV := Aside0.mk hv
      clear s1 s2 s3 s4 s5 ho hv hbl
      by_cases k1 : kd = 1
      · subst k1
        obtain ⟨b, hb⟩ : ∃ b, b = decide (0 ≤ v ∧ v < setSize size ∧ v ∉ (runK (setSize size) ops k).2) := ⟨_, rfl⟩
        have hadd := Spint.Add _ w.heap.size g ok (setSize size) (runK (setSize size) ops k).2 v HV.out H3.out
        rw [← hb] at hadd
        have HA1 := Aside0.mk hadd
        have HB1 := Aside0.mk hb
        clear hadd hb
        cases b
        · go_wp2_with (first | (go_at_call 26; go_must (refine (HA1.out).mono ?_; rintro e w2 ⟨rfl, ⟨hs2, hc2⟩⟩; have HM : Aside0 (Mid w (setSize size) ops g k u7 0 _) := ⟨mid (B := 0) HO.out HD.out (fun b h => (HB.out b h).1) HL5.out hs2 hc2 (fun b h => h) (by have := of_decide_eq_false HB1.out.symm; simp only [HE.out, stepL, if_true, if_neg this])⟩; try clear hs2 hc2)) | (at_builtin; go_must (refine print_append_num (w0 := w) w.heap.size rfl (.tmp 54) (.tmp 56) 24 3 .i64 8 rfl Try.underlying24 Spint.info_e (by decide) _ (runK (setSize size) ops k).1 _ rfl (by first | rfl | (rw [World.size_alloc]; rfl)) (by rw [runK_len]; exact HM.out.own) HM.out.below HM.out.base (by rw [runK_len]; omega) ?hh)))
          case hh =>
            intro v1 w1 hown hb1 hg1 hat1
            have HI2 := Aside0.mk (HM.out.next (by rw [List.length_append, List.length_singleton]; exact hown) hg1 (by simpa only [World.size_alloc] using hat1))
            clear hown hb1 hg1 hat1
            go_wp2
            go_roundw
            case rel => exact ⟨k + 1, by omega, by go_num, HI2⟩
            case measure => simp [intOf]; omega
        · go_wp2_with (first | (go_at_call 26; go_must (refine (HA1.out).mono ?_; rintro e w2 ⟨rfl, ⟨hs2, hc2⟩⟩; have HM : Aside0 (Mid w (setSize size) ops g k u7 1 _) := ⟨mid (B := 0) HO.out HD.out (fun b h => (HB.out b h).1) HL5.out hs2 hc2 (fun b h => h) (by have := of_decide_eq_true HB1.out.symm; simp only [HE.out, stepL, if_true, if_pos this])⟩; try clear hs2 hc2)) | (at_builtin; go_must (refine print_append_num (w0 := w) w.heap.size rfl (.tmp 54) (.tmp 56) 24 3 .i64 8 rfl Try.underlying24 Spint.info_e (by decide) _ (runK (setSize size) ops k).1 _ rfl (by first | rfl | (rw [World.size_alloc]; rfl)) (by rw [runK_len]; exact HM.out.own) HM.out.below HM.out.base (by rw [runK_len]; omega) ?hh)))
          case hh =>
            intro v1 w1 hown hb1 hg1 hat1
            have HI2 := Aside0.mk (HM.out.next (by rw [List.length_append, List.length_singleton]; exact hown) hg1 (by simpa only [World.size_alloc] using hat1))
            clear hown hb1 hg1 hat1
            go_wp2
            go_roundw
            case rel => exact ⟨k + 1, by omega, by go_num, HI2⟩
            case measure => simp [intOf]; omega
      · have n1 : (kd == 1) = false := by simpa using k1
        by_cases k2 : kd = 2
        · subst k2
          obtain ⟨b, hb⟩ : ∃ b, b = decide (v ∈ (runK (setSize size) ops k).2) := ⟨_, rfl⟩
          have hadd := Spint.Has _ w.heap.size g ok (setSize size) (runK (setSize size) ops k).2 v HV.out H3.out
          rw [← hb] at hadd
          have HA1 := Aside0.mk hadd
          have HB1 := Aside0.mk hb
          clear hadd hb
          cases b
          · go_wp2_with (first | (go_at_call 30; go_must (refine (HA1.out).mono ?_; rintro e w2 ⟨rfl, rfl⟩; have HM : Aside0 (Mid w (setSize size) ops g k u7 0 _) := ⟨mid (B := 0) HO.out HD.out (fun b h => (HB.out b h).1) HL5.out H3.out (Chg.refl _ _) (fun b h => .inl h) (by have := of_decide_eq_false HB1.out.symm; simp only [HE.out, stepL, if_neg k1, if_true, if_neg this])⟩; try clear hs2 hc2)) | (at_builtin; go_must (refine print_append_num (w0 := w) w.heap.size rfl (.tmp 54) (.tmp 56) 24 3 .i64 8 rfl Try.underlying24 Spint.info_e (by decide) _ (runK (setSize size) ops k).1 _ rfl (by first | rfl | (rw [World.size_alloc]; rfl)) (by rw [runK_len]; exact HM.out.own) HM.out.below HM.out.base (by rw [runK_len]; omega) ?hh)))
            case hh =>
              intro v1 w1 hown hb1 hg1 hat1
              have HI2 := Aside0.mk (HM.out.next (by rw [List.length_append, List.length_singleton]; exact hown) hg1 (by simpa only [World.size_alloc] using hat1))
              clear hown hb1 hg1 hat1
              go_wp2
              go_roundw
              case rel => exact ⟨k + 1, by omega, by go_num, HI2⟩
              case measure => simp [intOf]; omega
          · go_wp2_with (first | (go_at_call 30; go_must (refine (HA1.out).mono ?_; rintro e w2 ⟨rfl, rfl⟩; have HM : Aside0 (Mid w (setSize size) ops g k u7 1 _) := ⟨mid (B := 0) HO.out HD.out (fun b h => (HB.out b h).1) HL5.out H3.out (Chg.refl _ _) (fun b h => .inl h) (by have := of_decide_eq_true HB1.out.symm; simp only [HE.out, stepL, if_neg k1, if_true, if_pos this])⟩; try clear hs2 hc2)) | (at_builtin; go_must (refine print_append_num (w0 := w) w.heap.size rfl (.tmp 54) (.tmp 56) 24 3 .i64 8 rfl Try.underlying24 Spint.info_e (by decide) _ (runK (setSize size) ops k).1 _ rfl (by first | rfl | (rw [World.size_alloc]; rfl)) (by rw [runK_len]; exact HM.out.own) HM.out.below HM.out.base (by rw [runK_len]; omega) ?hh)))
            case hh =>
              intro v1 w1 hown hb1 hg1 hat1
              have HI2 := Aside0.mk (HM.out.next (by rw [List.length_append, List.length_singleton]; exact hown) hg1 (by simpa only [World.size_alloc] using hat1))
              clear hown hb1 hg1 hat1
              go_wp2
              go_roundw
              case rel => exact ⟨k + 1, by omega, by go_num, HI2⟩
              case measure => simp [intOf]; omega
        · have n2 : (kd == 2) = false := by simpa using k2
          by_cases k3 : kd = 3
          · subst k3
            have HA1 := Aside0.mk (Spint.Len _ w.heap.size g ok (setSize size) (runK (setSize size) ops k).2 H3.out)
            go_wp2_with (first | (go_at_call 38; go_must (refine (HA1.out).mono ?_; rintro e w2 ⟨rfl, rfl⟩; have HM : Aside0 (Mid w (setSize size) ops g k u7 ((runK (setSize size) ops k).2.length : Int) _) := ⟨mid (B := 0) HO.out HD.out (fun b h => (HB.out b h).1) HL5.out H3.out (Chg.refl _ _) (fun b h => .inl h) (by simp only [HE.out, stepL, if_neg k1, if_neg k2, if_true])⟩; try clear hs2 hc2)) | (at_builtin; go_must (refine print_append_num (w0 := w) w.heap.size rfl (.tmp 54) (.tmp 56) 24 3 .i64 8 rfl Try.underlying24 Spint.info_e (by decide) _ (runK (setSize size) ops k).1 _ rfl (by first | rfl | (rw [World.size_alloc]; rfl)) (by rw [runK_len]; exact HM.out.own) HM.out.below HM.out.base (by rw [runK_len]; omega) ?hh)))
            case hh =>
              intro v1 w1 hown hb1 hg1 hat1
              have HI2 := Aside0.mk (HM.out.next (by rw [List.length_append, List.length_singleton]; exact hown) hg1 (by simpa only [World.size_alloc] using hat1))
              clear hown hb1 hg1 hat1
              go_wp2
              go_roundw
              case rel => exact ⟨k + 1, by omega, by go_num, HI2⟩
              case measure => simp [intOf]; omega
          · have n3 : (kd == 3) = false := by simpa using k3
            by_cases k4 : kd = 4
            · subst k4
              obtain ⟨b, hb⟩ : ∃ b, b = decide (0 ≤ v ∧ v < (runK (setSize size) ops k).2.length) := ⟨_, rfl⟩
              have hadd := Spint.At _ w.heap.size g ok (setSize size) (runK (setSize size) ops k).2 v HV.out H3.out
              rw [← hb] at hadd
              cases b
              · have hf := of_decide_eq_false hb.symm
                rw [if_neg hf] at hadd
                have HA1 := Aside0.mk hadd
                have HB1 := Aside0.mk hf
                clear hadd hb hf
                go_wp2_with (first | (go_at_call 39; go_must (refine (HA1.out).mono ?_; rintro e w2 ⟨rfl, rfl⟩; have HM : Aside0 (Mid w (setSize size) ops g k u7 (-1) _) := ⟨mid (B := 0) HO.out HD.out (fun b h => (HB.out b h).1) HL5.out H3.out (Chg.refl _ _) (fun b h => .inl h) (by simp only [HE.out, stepL, if_neg k1, if_neg k2, if_neg k3, if_true, if_neg HB1.out])⟩; try clear hs2 hc2)) | (at_builtin; go_must (refine print_append_num (w0 := w) w.heap.size rfl (.tmp 54) (.tmp 56) 24 3 .i64 8 rfl Try.underlying24 Spint.info_e (by decide) _ (runK (setSize size) ops k).1 _ rfl (by first | rfl | (rw [World.size_alloc]; rfl)) (by rw [runK_len]; exact HM.out.own) HM.out.below HM.out.base (by rw [runK_len]; omega) ?hh)))
                case hh =>
                  intro v1 w1 hown hb1 hg1 hat1
                  have HI2 := Aside0.mk (HM.out.next (by rw [List.length_append, List.length_singleton]; exact hown) hg1 (by simpa only [World.size_alloc] using hat1))
                  clear hown hb1 hg1 hat1
                  go_wp2
                  go_roundw
                  case rel => exact ⟨k + 1, by omega, by go_num, HI2⟩
                  case measure => simp [intOf]; omega
              · have hf := of_decide_eq_true hb.symm
                rw [if_pos hf] at hadd
                obtain ⟨y, hy⟩ : ∃ y, y = (runK (setSize size) ops k).2.getD v.toNat 0 := ⟨_, rfl⟩
                rw [← hy] at hadd
                have HA1 := Aside0.mk hadd
                have HB1 := Aside0.mk hf
                have HY := Aside0.mk hy
                clear hadd hb hf hy
                go_wp2_with (first | (go_at_call 39; go_must (refine (HA1.out).mono ?_; rintro e w2 ⟨rfl, rfl⟩; have HM : Aside0 (Mid w (setSize size) ops g k u7 y _) := ⟨mid (B := 0) HO.out HD.out (fun b h => (HB.out b h).1) HL5.out H3.out (Chg.refl _ _) (fun b h => .inl h) (by simp only [HE.out, stepL, if_neg k1, if_neg k2, if_neg k3, if_true, if_pos HB1.out, HY.out])⟩; try clear hs2 hc2)) | (at_builtin; go_must (refine print_append_num (w0 := w) w.heap.size rfl (.tmp 54) (.tmp 56) 24 3 .i64 8 rfl Try.underlying24 Spint.info_e (by decide) _ (runK (setSize size) ops k).1 _ rfl (by first | rfl | (rw [World.size_alloc]; rfl)) (by rw [runK_len]; exact HM.out.own) HM.out.below HM.out.base (by rw [runK_len]; omega) ?hh)))
                case hh =>
                  intro v1 w1 hown hb1 hg1 hat1
                  have HI2 := Aside0.mk (HM.out.next (by rw [List.length_append, List.length_singleton]; exact hown) hg1 (by simpa only [World.size_alloc] using hat1))
                  clear hown hb1 hg1 hat1
                  go_wp2
                  go_roundw
                  case rel => exact ⟨k + 1, by omega, by go_num, HI2⟩
                  case measure => simp [intOf]; omega
            · have n4 : (kd == 4) = false := by simpa using k4
              by_cases k5 : kd = 5
              · subst k5
                have HA1 := Aside0.mk (Spint.Clear _ w.heap.size g ok (setSize size) (runK (setSize size) ops k).2 H3.out)
                go_wp2_with (first | (go_at_call 37; go_must (refine (HA1.out).mono ?_; rintro e w2 ⟨rfl, hs2, hc2⟩; have HM : Aside0 (Mid w (setSize size) ops g k u7 0 _) := ⟨mid (B := 0) HO.out HD.out (fun b h => (HB.out b h).1) HL5.out hs2 hc2 (fun b h => .inl h) (by simp only [HE.out, stepL, if_neg k1, if_neg k2, if_neg k3, if_neg k4, if_true])⟩; try clear hs2 hc2)) | (at_builtin; go_must (refine print_append_num (w0 := w) w.heap.size rfl (.tmp 54) (.tmp 56) 24 3 .i64 8 rfl Try.underlying24 Spint.info_e (by decide) _ (runK (setSize size) ops k).1 _ rfl (by first | rfl | (rw [World.size_alloc]; rfl)) (by rw [runK_len]; exact HM.out.own) HM.out.below HM.out.base (by rw [runK_len]; omega) ?hh)))
                case hh =>
                  intro v1 w1 hown hb1 hg1 hat1
                  have HI2 := Aside0.mk (HM.out.next (by rw [List.length_append, List.length_singleton]; exact hown) hg1 (by simpa only [World.size_alloc] using hat1))
                  clear hown hb1 hg1 hat1
                  go_wp2
                  go_roundw
                  case rel => exact ⟨k + 1, by omega, by go_num, HI2⟩
                  case measure => simp [intOf]; omega
              · have n5 : (kd == 5) = false := by simpa using k5
                have HM : Aside0 (Mid w (setSize size) ops g k u7 (-2) (wr.alloc (.cells #[.int .i64 kd, .int .i64 v] 28))) := ⟨mid (B := 0) HO.out HD.out (fun b h => (HB.out b h).1) HL5.out H3.out (Chg.refl _ _) (fun b h => .inl h) (by simp only [HE.out, stepL, if_neg k1, if_neg k2, if_neg k3, if_neg k4, if_neg k5])⟩
                go_wp2_with (at_builtin; go_must (refine print_append_num (w0 := w) w.heap.size rfl (.tmp 54) (.tmp 56) 24 3 .i64 8 rfl Try.underlying24 Spint.info_e (by decide) _ (runK (setSize size) ops k).1 _ rfl (by first | rfl | (rw [World.size_alloc]; rfl)) (by rw [runK_len]; exact HM.out.own) HM.out.below HM.out.base (by rw [runK_len]; omega) ?hh))
                case hh =>
                  intro v1 w1 hown hb1 hg1 hat1
                  have HI2 := Aside0.mk (HM.out.next (by rw [List.length_append, List.length_singleton]; exact hown) hg1 (by simpa only [World.size_alloc] using hat1))
                  clear hown hb1 hg1 hat1
                  go_wp2
                  go_roundw
                  case rel => exact ⟨k + 1, by omega, by go_num, HI2⟩
                  case measure => simp [intOf]; omega
    · have hd : decide (k < n) = false := by simpa using hlt
      obtain rfl : k = n := by omega
      have HF : Aside0 (∃ ok, IsSet TS TI .i64 (setSize size) (runK (setSize size) ops k).2 g w.heap.size ok wr) := ⟨by obtain ⟨ok, h, _⟩ := HI.out; exact ⟨ok, h⟩⟩
      go_wp2_with (go_at_call 34; go_must (obtain ⟨ok, hS⟩ := HF.out; refine (Spint.Values _ w.heap.size g ok (setSize size) (runK (setSize size) ops k).2 hS).mono ?_; rintro e w2 ⟨v2, rfl, q1, q2⟩))
      have Q1 := Aside0.mk q1
      have Q2 := Aside0.mk q2
      clear q1 q2
      go_wp2
      go_ret2
      obtain ⟨_, _, ho, _, _, hbl⟩ := HI.out
      have hL := HL.out
      refine ⟨_, _, rfl, ?_, ?_, below_then hbl hbl.size Q2.out⟩
      · rw [hL]; exact pw_own_below ho Q2.out
      · rw [hL]; exact own_weaken Q1.out hbl.size
end Go.Proofs.Ytpebemljgeammaa.Pl
