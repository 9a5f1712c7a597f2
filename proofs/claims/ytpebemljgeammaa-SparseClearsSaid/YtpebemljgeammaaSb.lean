/-
  SparseOrders: its walk.
-/
import Derived.Test.YtpebemljgeammaaSf
namespace Go.Proofs.Ytpebemljgeammaa.Sb
set_option linter.unusedVariables false
set_option linter.unusedSimpArgs false
open Go.RowKit Go.Proofs.YtpebemljgeammaaW.PrintWords Go.Proofs.Ytpebemljgeammaa.Hp Go.Proofs.Ytpebemljgeammaa.Sp0 Go.Proofs.Ytpebemljgeammaa.Spint Go.Proofs.YtpebemljgeammaaW.PrintMore
attribute [local go_sem] max2_int min2_int max_two min_two

abbrev TS : Nat := 95
abbrev TI : Nat := 3

/-- The list behind the first k Adds. -/
def addK (N : Nat) (l : List Int) : Nat → List Int
  | 0 => []
  | k + 1 => addL N (addK N l k) (l.getD k 0)

def Inv (w0 : World) (N : Nat) (l : List Int) (g k : Nat) (want : Value) (wr : World) : Prop :=
  ∃ ok : Nat → Prop, IsSet TS TI .i64 N (addK N l k) g w0.heap.size ok wr ∧ wr.ownsRow w0.heap.size TI 1 want (addK N l k).length (nums .i64 (addK N l k)) ∧ (∀ b, want.ownBlock = some b → ¬ ok b) ∧ (∀ b, ok b → w0.heap.size ≤ b) ∧ Below w0.heap.size w0 wr
theorem Inv.below {w0 W : World} {N g k : Nat} {l : List Int} {want : Value} (h : Inv w0 N l g k want W) : Below w0.heap.size w0 W := by
  obtain ⟨_, _, _, _, _, h⟩ := h; exact h

theorem Inv.keep {w0 wr w3 : World} {N g k : Nat} {l xs : List Int} {v : Int} {u : Value} {ok : Nat → Prop} (hxs : xs = addK N l k) (hv : v = l.getD k 0) (I2 : wr.ownsRow w0.heap.size TI 1 u xs.length (nums .i64 xs)) (I3 : ∀ b, u.ownBlock = some b → ¬ ok b) (I4 : ∀ b, ok b → w0.heap.size ≤ b) (I5 : Below w0.heap.size w0 wr)
    (q1 : IsSet TS TI .i64 N (addL N xs v) g w0.heap.size (fun b => ok b ∨ wr.heap.size ≤ b) w3) (q2 : Chg ok wr w3) (hf : false = decide (0 ≤ v ∧ v < N ∧ v ∉ xs)) : Inv w0 N l g (k + 1) u w3 := by
  have hf := of_decide_eq_false hf.symm
  have e : addL N xs v = xs := by simp only [addL, if_neg hf]
  have e2 : addK N l (k + 1) = xs := by simp only [addK, ← hv, ← hxs, e]
  rw [e] at q1
  refine ⟨_, by rw [e2]; exact q1, by rw [e2]; exact own_move I2 (fun b hb => q2.keep b (own_lt I2 b hb) (I3 b hb)), ?_, ?_, q2.below_of I5 I4⟩
  · rintro b hb (h | h)
    · exact I3 b hb h
    · have := own_lt I2 b hb; omega
  · rintro b (h | h)
    · exact I4 b h
    · have := I5.size; omega
theorem Inv.more {w0 wr w3 w4 : World} {N g k : Nat} {l xs : List Int} {v : Int} {u v1 : Value} {ok : Nat → Prop} (hxs : xs = addK N l k) (hv : v = l.getD k 0) (I2 : wr.ownsRow w0.heap.size TI 1 u xs.length (nums .i64 xs)) (I3 : ∀ b, u.ownBlock = some b → ¬ ok b) (I4 : ∀ b, ok b → w0.heap.size ≤ b) (I5 : Below w0.heap.size w0 wr)
    (q1 : IsSet TS TI .i64 N (addL N xs v) g w0.heap.size (fun b => ok b ∨ wr.heap.size ≤ b) w3) (q2 : Chg ok wr w3) (hf : true = decide (0 ≤ v ∧ v < N ∧ v ∉ xs))
    (hown : w4.ownsRow w0.heap.size TI 1 v1 (xs.length + 1) (nums .i64 (xs ++ [v]))) (hb1 : Below w0.heap.size w0 w4) (hg : w3.grownBy w4 u.ownBlock) (hat : v1.ownBlock = u.ownBlock ∨ ∃ b, v1.ownBlock = some b ∧ w3.heap.size ≤ b) : Inv w0 N l g (k + 1) v1 w4 := by
  have hf := of_decide_eq_true hf.symm
  have e : addL N xs v = xs ++ [v] := by simp only [addL, if_pos hf]
  have e2 : addK N l (k + 1) = xs ++ [v] := by simp only [addK, ← hv, ← hxs, e]
  rw [e] at q1
  refine ⟨fun b => (ok b ∨ wr.heap.size ≤ b) ∧ b < w3.heap.size, ?_, ?_, ?_, ?_, hb1⟩
  · rw [e2]
    exact q1.bound.step (fun b hb hlt => hg.block b hlt (fun he => by
      rcases hb.1 with h | h
      · exact I3 b he.symm h
      · have := own_lt I2 b he.symm; omega))
  · rw [e2, List.length_append, List.length_singleton]; exact hown
  · rintro b hb ⟨h, h2⟩
    rcases hat with ha | ⟨b', ha, hle⟩
    · rw [ha] at hb
      rcases h with h | h
      · exact I3 b hb h
      · have := own_lt I2 b hb; omega
    · rw [ha] at hb; injection hb with hb; omega
  · rintro b ⟨h | h, _⟩
    · exact I4 b h
    · have := I5.size; omega

theorem fresh_next {N : Nat} {xs : List Int} {v y : Int} {m : Nat} {b : Bool} (hm : m < xs.length) (hy : y = xs.getD m 0) (hb : b = decide (0 ≤ v ∧ v < N ∧ v ∉ xs.take m)) :
    (b && (y != v)) = decide (0 ≤ v ∧ v < N ∧ v ∉ xs.take (m + 1)) := by
  have e : xs.getD m 0 = xs[m] := by simp [List.getD_eq_getElem?_getD, hm]
  rw [e] at hy
  subst hy
  rw [hb, Bool.eq_iff_iff, List.take_succ_eq_append_getElem hm]
  simp only [Bool.and_eq_true, decide_eq_true_eq, bne_iff_ne, List.mem_append, List.mem_singleton]
  constructor
  · rintro ⟨⟨h1, h2, h3⟩, h4⟩
    exact ⟨h1, h2, fun h => h.elim h3 (fun h => h4 h.symm)⟩
  · rintro ⟨h1, h2, h3⟩
    exact ⟨⟨h1, h2, fun h => h3 (.inl h)⟩, fun h => h3 (.inr h.symm)⟩

set_option maxRecDepth 100000 in
set_option maxHeartbeats 4000000 in
theorem walk (w : World) (A : Option Addr) (n c : Nat) (size : Int) (l : List Int) (hs : (Lit.int .i64 size).wf = true) (hA : ReadsInt w .i64 A n l) (hwf : ∀ x, x ∈ l → (Lit.int .i64 x).wf = true) :
    Calls Try.prog 6 #[.int .i64 size, .slice A n c] w fun e w' => e = .returned (.bool true) ∧ Below w.heap.size w w' := by
  have hm := hA.2.1
  have hl := hA.1
  have HA := Aside0.mk hA
  have HL := Aside0.mk hl
  have HW := Aside0.mk hwf
  clear hA hl hwf
  go_enter Try.func6, Try.ntmps6
  go_wp2_with (first | (go_at_call 15; refine (Sf.fixed w).mono ?_; rintro e w1 ⟨rfl, h1⟩; have H1 := Aside0.mk h1; clear h1) | (go_at_call 22; go_must (refine (New _ size hs).mono ?_; rintro e w2 ⟨g, rfl, p1, p2⟩; have P1 := Aside0.mk p1; have P2 := Aside0.mk p2; clear p1 p2)))
  go_loopw [6, 24] (fun want i wr => ∃ k : Nat, k ≤ n ∧ i = .int .i64 k ∧ Aside0 (Inv w1 (setSize size) l g k want wr)) (fun _ i _ => n - (intOf i).toNat)
  case atStart => exact ⟨0, Nat.zero_le _, rfl, ⟨_, P1.out, own_nil _ _ _ _, by simp [Value.ownBlock], fun _ h => h, P2.out⟩⟩
  case round =>
    obtain ⟨k, hk, rfl, HI⟩ := hrel
    by_cases hlt : k < n
    · have hd : decide (k < n) = true := by simpa using hlt
      have hbl : Below w.heap.size w wr := below_then H1.out H1.out.size HI.out.below
      obtain ⟨a1, rfl, hc1⟩ := Sn.rd_at (HA.out.below hbl) k hlt
      obtain ⟨v, hv⟩ : ∃ v, v = l.getD k 0 := ⟨_, rfl⟩
      rw [← hv] at hc1
      have hvw : (Lit.int .i64 v).wf = true := HW.out v (by rw [hv, List.getD_eq_getElem?_getD, List.getElem?_eq_getElem (by have := HL.out; omega)]; exact List.getElem_mem _)
      have HV := Aside0.mk hv
      have HVW := Aside0.mk hvw
      obtain ⟨ok, i1, i2, i3, i4, i5⟩ := HI.out
      have hn := i1.facts.2.1
      have hN := i1.facts.1
      obtain ⟨A2, c2, rfl, t2⟩ := own_reads i2
      have hm2 := t2.2.1
      have I1 := Aside0.mk i1
      have I2 := Aside0.mk i2
      have I3 := Aside0.mk i3
      have I4 := Aside0.mk i4
      have I5 := Aside0.mk i5
      have T2 := Aside0.mk t2
      obtain ⟨xs, hxs⟩ : ∃ xs, xs = addK (setSize size) l k := ⟨_, rfl⟩
      rw [← hxs] at I1 I2 I3 T2 hn hm2 ⊢
      have HX := Aside0.mk hxs
      obtain ⟨N, hNN⟩ : ∃ N, N = setSize size := ⟨_, rfl⟩
      have hsz : (N : Int) = min (max size 0) 65536 := by rw [hNN]; unfold setSize; omega
      have HN := Aside0.mk hNN
      have HZ := Aside0.mk hsz
      have hadd := Spint.Add wr w1.heap.size g ok (setSize size) xs v hvw I1.out
      obtain ⟨fin, hfin⟩ : ∃ fin, fin = decide (0 ≤ v ∧ v < setSize size ∧ v ∉ xs) := ⟨_, rfl⟩
      rw [← hfin] at hadd
      have HADD := Aside0.mk hadd
      have HF := Aside0.mk hfin
      clear i1 i2 i3 i4 i5 hbl hv hvw t2 hxs hNN hsz hadd hfin
      by_cases h0 : v < 0
      · have HS := Aside0.mk (show 0 ≤ (setSize size : Int) by omega)
        go_wp2
        go_loop [9, 39] (fun f j => ∃ (b : Bool) (m : Nat), m ≤ xs.length ∧ j = .int .i64 m ∧ f = .bool b ∧ Aside0 (b = decide (0 ≤ v ∧ v < setSize size ∧ v ∉ xs.take m))) (fun _ j => xs.length - (intOf j).toNat)
        case atStart => exact ⟨_, 0, Nat.zero_le _, rfl, rfl, ⟨by have := HS.out; simp only [List.take_zero, List.not_mem_nil, not_false_eq_true, and_true]; rw [Bool.eq_iff_iff]; simp only [decide_eq_true_eq, Bool.false_eq_true]; first | omega | (constructor; intro h; exact h.elim; intro h; omega)⟩⟩
        case round =>
          obtain ⟨b, m, hmm, rfl, rfl, HB⟩ := hrel
          by_cases hlm : m < xs.length
          · have hd2 : decide (m < xs.length) = true := by simpa using hlm
            obtain ⟨a3, hae, hc3⟩ := Sn.rd_at T2.out m hlm
            cases hae
            obtain ⟨y, hy⟩ : ∃ y, y = xs.getD m 0 := ⟨_, rfl⟩
            rw [← hy] at hc3
            have HB2 := Aside0.mk (fresh_next hlm hy HB.out)
            clear hy HB
            cases b
            all_goals
              go_wp2
              go_round
              case rel => exact ⟨_, m + 1, by omega, by go_num, rfl, ⟨by have := HB2.out; simpa using this⟩⟩
              case measure => simp [intOf]; omega
          · have hd2 : decide (m < xs.length) = false := by simpa using hlm
            have hbf : b = fin := by rw [HB.out, HF.out, List.take_of_length_le (by omega)]
            subst hbf
            clear HB
            cases b
            · go_wp2_with (go_at_call 26; go_must (refine HADD.out.mono ?_; rintro e w3 ⟨rfl, ⟨q1, q2⟩⟩; have Q1 := Aside0.mk q1; have Q2 := Aside0.mk q2; clear q1 q2))
              go_roundw
              case rel => exact ⟨k + 1, by omega, by go_num, ⟨Inv.keep HX.out HV.out I2.out I3.out I4.out I5.out Q1.out Q2.out HF.out⟩⟩
              case measure => simp [intOf]; omega
            · go_wp2_with (first | (go_at_call 26; go_must (refine HADD.out.mono ?_; rintro e w3 ⟨rfl, ⟨q1, q2⟩⟩; have Q1 := Aside0.mk q1; have Q2 := Aside0.mk q2; clear q1 q2))         | (at_builtin; go_must (refine print_append_num (w0 := w1) w1.heap.size rfl (.tmp 56) (.tmp 58) 24 3 .i64 8 rfl Try.underlying24 Spint.info_e (by decide) _ xs _ rfl rfl (own_move I2.out (fun b hb => Q2.out.keep b (own_lt I2.out b hb) (I3.out b hb))) (Q2.out.below_of I5.out I4.out) (Q2.out.below_of I5.out I4.out).size (by omega) ?hh)))
              case hh =>
                intro v1 w4 hown hb1 hg1 hat1
                have HI2 : Aside0 (Inv w1 (setSize size) l g (k + 1) v1 w4) := ⟨Inv.more HX.out HV.out I2.out I3.out I4.out I5.out Q1.out Q2.out HF.out (by simpa using hown) hb1 hg1 hat1⟩
                obtain ⟨A5, c5, rfl⟩ := own_slice hown
                clear hown hb1 hg1 hat1
                go_wp2
                go_roundw
                case rel => exact ⟨k + 1, by omega, by go_num, HI2⟩
                case measure => simp [intOf]; omega
      · by_cases s0 : size < 0
        · have HS := Aside0.mk (show (setSize size : Int) = 0 by unfold setSize; omega)
          go_wp2
          go_loop [9, 39] (fun f j => ∃ (b : Bool) (m : Nat), m ≤ xs.length ∧ j = .int .i64 m ∧ f = .bool b ∧ Aside0 (b = decide (0 ≤ v ∧ v < setSize size ∧ v ∉ xs.take m))) (fun _ j => xs.length - (intOf j).toNat)
          case atStart => exact ⟨_, 0, Nat.zero_le _, rfl, rfl, ⟨by have := HS.out; simp only [List.take_zero, List.not_mem_nil, not_false_eq_true, and_true]; rw [Bool.eq_iff_iff]; simp only [decide_eq_true_eq, Bool.false_eq_true]; first | omega | (constructor; intro h; exact h.elim; intro h; omega)⟩⟩
          case round =>
            obtain ⟨b, m, hmm, rfl, rfl, HB⟩ := hrel
            by_cases hlm : m < xs.length
            · have hd2 : decide (m < xs.length) = true := by simpa using hlm
              obtain ⟨a3, hae, hc3⟩ := Sn.rd_at T2.out m hlm
              cases hae
              obtain ⟨y, hy⟩ : ∃ y, y = xs.getD m 0 := ⟨_, rfl⟩
              rw [← hy] at hc3
              have HB2 := Aside0.mk (fresh_next hlm hy HB.out)
              clear hy HB
              cases b
              all_goals
                go_wp2
                go_round
                case rel => exact ⟨_, m + 1, by omega, by go_num, rfl, ⟨by have := HB2.out; simpa using this⟩⟩
                case measure => simp [intOf]; omega
            · have hd2 : decide (m < xs.length) = false := by simpa using hlm
              have hbf : b = fin := by rw [HB.out, HF.out, List.take_of_length_le (by omega)]
              subst hbf
              clear HB
              cases b
              · go_wp2_with (go_at_call 26; go_must (refine HADD.out.mono ?_; rintro e w3 ⟨rfl, ⟨q1, q2⟩⟩; have Q1 := Aside0.mk q1; have Q2 := Aside0.mk q2; clear q1 q2))
                go_roundw
                case rel => exact ⟨k + 1, by omega, by go_num, ⟨Inv.keep HX.out HV.out I2.out I3.out I4.out I5.out Q1.out Q2.out HF.out⟩⟩
                case measure => simp [intOf]; omega
              · go_wp2_with (first | (go_at_call 26; go_must (refine HADD.out.mono ?_; rintro e w3 ⟨rfl, ⟨q1, q2⟩⟩; have Q1 := Aside0.mk q1; have Q2 := Aside0.mk q2; clear q1 q2))         | (at_builtin; go_must (refine print_append_num (w0 := w1) w1.heap.size rfl (.tmp 56) (.tmp 58) 24 3 .i64 8 rfl Try.underlying24 Spint.info_e (by decide) _ xs _ rfl rfl (own_move I2.out (fun b hb => Q2.out.keep b (own_lt I2.out b hb) (I3.out b hb))) (Q2.out.below_of I5.out I4.out) (Q2.out.below_of I5.out I4.out).size (by omega) ?hh)))
                case hh =>
                  intro v1 w4 hown hb1 hg1 hat1
                  have HI2 : Aside0 (Inv w1 (setSize size) l g (k + 1) v1 w4) := ⟨Inv.more HX.out HV.out I2.out I3.out I4.out I5.out Q1.out Q2.out HF.out (by simpa using hown) hb1 hg1 hat1⟩
                  obtain ⟨A5, c5, rfl⟩ := own_slice hown
                  clear hown hb1 hg1 hat1
                  go_wp2
                  go_roundw
                  case rel => exact ⟨k + 1, by omega, by go_num, HI2⟩
                  case measure => simp [intOf]; omega
        · by_cases s1 : 65536 < size
          · have HS := Aside0.mk (show (setSize size : Int) = 65536 by unfold setSize; omega)
            go_wp2
            go_loop [9, 39] (fun f j => ∃ (b : Bool) (m : Nat), m ≤ xs.length ∧ j = .int .i64 m ∧ f = .bool b ∧ Aside0 (b = decide (0 ≤ v ∧ v < setSize size ∧ v ∉ xs.take m))) (fun _ j => xs.length - (intOf j).toNat)
            case atStart => exact ⟨_, 0, Nat.zero_le _, rfl, rfl, ⟨by have := HS.out; simp only [List.take_zero, List.not_mem_nil, not_false_eq_true, and_true]; rw [Bool.eq_iff_iff]; simp only [decide_eq_true_eq, Bool.false_eq_true]; first | omega | (constructor; intro h; exact h.elim; intro h; omega)⟩⟩
            case round =>
              obtain ⟨b, m, hmm, rfl, rfl, HB⟩ := hrel
              by_cases hlm : m < xs.length
              · have hd2 : decide (m < xs.length) = true := by simpa using hlm
                obtain ⟨a3, hae, hc3⟩ := Sn.rd_at T2.out m hlm
                cases hae
                obtain ⟨y, hy⟩ : ∃ y, y = xs.getD m 0 := ⟨_, rfl⟩
                rw [← hy] at hc3
                have HB2 := Aside0.mk (fresh_next hlm hy HB.out)
                clear hy HB
                cases b
                all_goals
                  go_wp2
                  go_round
                  case rel => exact ⟨_, m + 1, by omega, by go_num, rfl, ⟨by have := HB2.out; simpa using this⟩⟩
                  case measure => simp [intOf]; omega
              · have hd2 : decide (m < xs.length) = false := by simpa using hlm
                have hbf : b = fin := by rw [HB.out, HF.out, List.take_of_length_le (by omega)]
                subst hbf
                clear HB
                cases b
                · go_wp2_with (go_at_call 26; go_must (refine HADD.out.mono ?_; rintro e w3 ⟨rfl, ⟨q1, q2⟩⟩; have Q1 := Aside0.mk q1; have Q2 := Aside0.mk q2; clear q1 q2))
                  go_roundw
                  case rel => exact ⟨k + 1, by omega, by go_num, ⟨Inv.keep HX.out HV.out I2.out I3.out I4.out I5.out Q1.out Q2.out HF.out⟩⟩
                  case measure => simp [intOf]; omega
                · go_wp2_with (first | (go_at_call 26; go_must (refine HADD.out.mono ?_; rintro e w3 ⟨rfl, ⟨q1, q2⟩⟩; have Q1 := Aside0.mk q1; have Q2 := Aside0.mk q2; clear q1 q2))         | (at_builtin; go_must (refine print_append_num (w0 := w1) w1.heap.size rfl (.tmp 56) (.tmp 58) 24 3 .i64 8 rfl Try.underlying24 Spint.info_e (by decide) _ xs _ rfl rfl (own_move I2.out (fun b hb => Q2.out.keep b (own_lt I2.out b hb) (I3.out b hb))) (Q2.out.below_of I5.out I4.out) (Q2.out.below_of I5.out I4.out).size (by omega) ?hh)))
                  case hh =>
                    intro v1 w4 hown hb1 hg1 hat1
                    have HI2 : Aside0 (Inv w1 (setSize size) l g (k + 1) v1 w4) := ⟨Inv.more HX.out HV.out I2.out I3.out I4.out I5.out Q1.out Q2.out HF.out (by simpa using hown) hb1 hg1 hat1⟩
                    obtain ⟨A5, c5, rfl⟩ := own_slice hown
                    clear hown hb1 hg1 hat1
                    go_wp2
                    go_roundw
                    case rel => exact ⟨k + 1, by omega, by go_num, HI2⟩
                    case measure => simp [intOf]; omega
          · have HS := Aside0.mk (show (setSize size : Int) = size by unfold setSize; omega)
            go_wp2
            go_loop [9, 39] (fun f j => ∃ (b : Bool) (m : Nat), m ≤ xs.length ∧ j = .int .i64 m ∧ f = .bool b ∧ Aside0 (b = decide (0 ≤ v ∧ v < setSize size ∧ v ∉ xs.take m))) (fun _ j => xs.length - (intOf j).toNat)
            case atStart => exact ⟨_, 0, Nat.zero_le _, rfl, rfl, ⟨by have := HS.out; simp only [List.take_zero, List.not_mem_nil, not_false_eq_true, and_true]; rw [Bool.eq_iff_iff]; simp only [decide_eq_true_eq, Bool.false_eq_true]; first | omega | (constructor; intro h; exact h.elim; intro h; omega)⟩⟩
            case round =>
              obtain ⟨b, m, hmm, rfl, rfl, HB⟩ := hrel
              by_cases hlm : m < xs.length
              · have hd2 : decide (m < xs.length) = true := by simpa using hlm
                obtain ⟨a3, hae, hc3⟩ := Sn.rd_at T2.out m hlm
                cases hae
                obtain ⟨y, hy⟩ : ∃ y, y = xs.getD m 0 := ⟨_, rfl⟩
                rw [← hy] at hc3
                have HB2 := Aside0.mk (fresh_next hlm hy HB.out)
                clear hy HB
                cases b
                all_goals
                  go_wp2
                  go_round
                  case rel => exact ⟨_, m + 1, by omega, by go_num, rfl, ⟨by have := HB2.out; simpa using this⟩⟩
                  case measure => simp [intOf]; omega
              · have hd2 : decide (m < xs.length) = false := by simpa using hlm
                have hbf : b = fin := by rw [HB.out, HF.out, List.take_of_length_le (by omega)]
                subst hbf
                clear HB
                cases b
                · go_wp2_with (go_at_call 26; go_must (refine HADD.out.mono ?_; rintro e w3 ⟨rfl, ⟨q1, q2⟩⟩; have Q1 := Aside0.mk q1; have Q2 := Aside0.mk q2; clear q1 q2))
                  go_roundw
                  case rel => exact ⟨k + 1, by omega, by go_num, ⟨Inv.keep HX.out HV.out I2.out I3.out I4.out I5.out Q1.out Q2.out HF.out⟩⟩
                  case measure => simp [intOf]; omega
                · go_wp2_with (first | (go_at_call 26; go_must (refine HADD.out.mono ?_; rintro e w3 ⟨rfl, ⟨q1, q2⟩⟩; have Q1 := Aside0.mk q1; have Q2 := Aside0.mk q2; clear q1 q2))         | (at_builtin; go_must (refine print_append_num (w0 := w1) w1.heap.size rfl (.tmp 56) (.tmp 58) 24 3 .i64 8 rfl Try.underlying24 Spint.info_e (by decide) _ xs _ rfl rfl (own_move I2.out (fun b hb => Q2.out.keep b (own_lt I2.out b hb) (I3.out b hb))) (Q2.out.below_of I5.out I4.out) (Q2.out.below_of I5.out I4.out).size (by omega) ?hh)))
                  case hh =>
                    intro v1 w4 hown hb1 hg1 hat1
                    have HI2 : Aside0 (Inv w1 (setSize size) l g (k + 1) v1 w4) := ⟨Inv.more HX.out HV.out I2.out I3.out I4.out I5.out Q1.out Q2.out HF.out (by simpa using hown) hb1 hg1 hat1⟩
                    obtain ⟨A5, c5, rfl⟩ := own_slice hown
                    clear hown hb1 hg1 hat1
                    go_wp2
                    go_roundw
                    case rel => exact ⟨k + 1, by omega, by go_num, HI2⟩
                    case measure => simp [intOf]; omega
    · have hd : decide (k < n) = false := by simpa using hlt
      obtain rfl : k = n := by omega
      obtain ⟨ok, i1, i2, i3, i4, i5⟩ := HI.out
      have hn := i1.facts.2.1
      have hN := i1.facts.1
      obtain ⟨A2, c2, rfl, t2⟩ := own_reads i2
      obtain ⟨xs, hxs⟩ : ∃ xs, xs = addK (setSize size) l k := ⟨_, rfl⟩
      rw [← hxs] at i1 i2 t2 hn ⊢
      have hm2 := t2.2.1
      have HB := Aside0.mk (below_then H1.out H1.out.size i5)
      have I1 := Aside0.mk i1
      have T2 := Aside0.mk t2
      have hxw : ∀ x, x ∈ xs → (Lit.int .i64 x).wf = true := fun x hx => by
        have h := i1.facts.2.2.2.2.2.1 x hx
        simp [Lit.wf, IntKind.min, IntKind.max, IntKind.signed, IntKind.bits]
        omega
      have HXW := Aside0.mk hxw
      clear i1 i2 i3 i4 i5 hxs t2 HI hxw
      go_wp2
      go_loop [63] (fun j => ∃ m : Nat, m ≤ xs.length ∧ j = .int .i64 m) (fun j => xs.length - (intOf j).toNat)
      case atStart => exact ⟨0, Nat.zero_le _, rfl⟩
      case round =>
        obtain ⟨m, hmm, rfl⟩ := hrel
        by_cases hlm : m < xs.length
        · have hd2 : decide (m < xs.length) = true := by simpa using hlm
          obtain ⟨a3, rfl, hc3⟩ := Sn.rd_at T2.out m hlm
          obtain ⟨y, hy⟩ : ∃ y, y = xs.getD m 0 := ⟨_, rfl⟩
          have hmem : y ∈ xs := by rw [hy, List.getD_eq_getElem?_getD, List.getElem?_eq_getElem hlm]; exact List.getElem_mem _
          have hat := Spint.At wr w1.heap.size g ok (setSize size) xs m (by simp [Lit.wf, IntKind.min, IntKind.max, IntKind.signed, IntKind.bits]; omega) I1.out
          have hat2 : Calls Try.prog 39 #[.pointer (some ⟨g, 0, none⟩), .int .i64 m] wr fun e w' => e = .returned (.tuple #[.int .i64 y, .bool true]) ∧ wr = w' := by
            rw [if_pos (by omega), decide_eq_true (show (0 ≤ (m : Int) ∧ (m : Int) < xs.length) by omega), Int.toNat_natCast, ← hy] at hat
            exact hat
          have hhas := Spint.Has wr w1.heap.size g ok (setSize size) xs y (HXW.out y hmem) I1.out
          rw [decide_eq_true hmem] at hhas
          rw [← hy] at hc3
          have HAT := Aside0.mk hat2
          have HHAS := Aside0.mk hhas
          have hbn : (y != y) = false := by simp
          clear hat hat2 hhas hy hmem
          go_wp2_with (first | (go_at_call 39; go_must (refine HAT.out.mono ?_; rintro e w3 ⟨rfl, rfl⟩)) | (go_at_call 30; go_must (refine HHAS.out.mono ?_; rintro e w3 ⟨rfl, rfl⟩)))
          go_round
          case rel => exact ⟨m + 1, by omega, by go_num⟩
          case measure => simp [intOf]; omega
        · have hd2 : decide (m < xs.length) = false := by simpa using hlm
          obtain rfl : m = xs.length := by omega
          have hat := Spint.At wr w1.heap.size g ok (setSize size) xs xs.length (by simp [Lit.wf, IntKind.min, IntKind.max, IntKind.signed, IntKind.bits]; omega) I1.out
          rw [if_neg (by omega), decide_eq_false (show ¬ (0 ≤ (xs.length : Int) ∧ (xs.length : Int) < xs.length) by omega)] at hat
          have HAT := Aside0.mk hat
          clear hat
          have hbe : ((xs.length : Int) == (xs.length : Int)) = true := by simp
          go_wp2_with (first | (go_at_call 39; go_must (refine HAT.out.mono ?_; rintro e w3 ⟨rfl, rfl⟩)) | (go_at_call 38; go_must (refine (Spint.Len wr w1.heap.size g ok (setSize size) xs I1.out).mono ?_; rintro e w3 ⟨rfl, rfl⟩))             | (go_at_call 34; go_must (refine (Spint.Values wr w1.heap.size g ok (setSize size) xs I1.out).mono ?_; rintro e w3 ⟨v5, rfl, q1, q2⟩; obtain ⟨A5, c5, rfl, t5⟩ := own_reads q1; have T5 := Aside0.mk t5; have Q2 := Aside0.mk q2; clear q1 q2 t5))             | (go_at_call 18; go_must (refine (Sn.same_true _ _ _ _ _ _ _ _ _ T5.out (T2.out.below Q2.out) rfl).mono ?_; rintro e w6 ⟨rfl, hq⟩; have HQ2 := Aside0.mk hq; clear hq)))
          go_ret
          have b3 := below_then HB.out HB.out.size Q2.out
          exact ⟨rfl, below_then b3 b3.size HQ2.out.below⟩

/-- The walk, as the row asks for it. -/
theorem law (w : World) (size : Int) (hs : (Lit.int .i64 size).wf = true) (A : Option Addr) (l : List Int) (c : Nat) (hA : (Kd.int .i64).C w A l.length l) (_hc : l.length ≤ c)
    (hwf : ∀ x, x ∈ l → (Lit.int .i64 x).wf = true) (_hb : l.length * 8 ≤ 140737488351232) :
    Calls Try.prog 6 #[.int .i64 size, .slice A l.length c] w fun e w' => e = .returned (.bool true) ∧ Below w.heap.size w w' :=
  walk w A l.length c size l hs (rdint hA) hwf
end Go.Proofs.Ytpebemljgeammaa.Sb
