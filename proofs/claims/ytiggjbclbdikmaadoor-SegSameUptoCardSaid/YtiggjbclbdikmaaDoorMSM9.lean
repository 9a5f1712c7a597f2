/-
  Several texts of this claim in one: what its law's proof uses.
-/
import Derived.Test.YtiggjbclbdikmaaDoorMSM2
namespace Go.Proofs.YtiggjbclbdikmaaDoor.Fm
set_option linter.unusedVariables false
set_option linter.unusedSimpArgs false
open Go.RowKit Go.Proofs.YtiggjbclbdikmaaDoorW.PrintWords Go.Proofs.YtiggjbclbdikmaaDoor.Hp
structure Th where
  P : (Nat → Prop) → World → Prop
  loc : ∀ {ok w w'}, P ok w → (∀ k, ok k → k < w.heap.size → w'.heap[k]? = w.heap[k]?) → P ok w'
  bnd : ∀ {ok w}, P ok w → P (fun k => ok k ∧ k < w.heap.size) w
def rowT {α : Type} (d : Kd α) (e : Nat) (base : Nat) (v : Value) (xs : List α) : Th :=
  ⟨fun ok w => d.R e w base ok v xs, fun h hm => Kd.R_step h hm, fun h => Kd.R_mono (Kd.R_bound h) (fun _ hk => ⟨hk.1, hk.2.2.1⟩)⟩
def Sep (w0 : World) (L : List Th) (w : World) : Prop :=
  ∃ ok : Nat → Nat → Prop, (∀ (i : Nat) (T : Th), L[i]? = some T → T.P (ok i) w) ∧ (∀ i j b, i ≠ j → ok i b → ¬ ok j b) ∧ (∀ i b, ok i b → w0.heap.size ≤ b ∧ b < w.heap.size) ∧ Below w0.heap.size w0 w
section
variable {w0 w w' : World} {L : List Th} {T T' T2 : Th}
theorem Sep.below (h : Sep w0 L w) : Below w0.heap.size w0 w := by obtain ⟨_, _, _, _, h⟩ := h; exact h
theorem Sep.nil (w0 : World) : Sep w0 [] w0 := ⟨fun _ _ => False, by simp, by simp, by simp, Below.refl _ _⟩
theorem Sep.start (h : Below w0.heap.size w0 w) : Sep w0 [] w := ⟨fun _ _ => False, by simp, by simp, by simp, h⟩
theorem Sep.later (h : Sep w0 L w) (hb : Below w.heap.size w w') : Sep w0 L w' := by
  obtain ⟨ok, h1, h2, h3, h4⟩ := h
  exact ⟨ok, fun i T hT => T.loc (h1 i T hT) (fun k _ hlt => hb.block k hlt), h2, fun i b hb' => ⟨(h3 i b hb').1, Nat.lt_of_lt_of_le (h3 i b hb').2 hb.size⟩, below_then h4 h4.size hb⟩
theorem Sep.one (h : Sep w0 L w) (i : Nat) (T : Th) (hi : L[i]? = some T) : ∃ ok : Nat → Prop, T.P ok w := by
  obtain ⟨ok, h1, _⟩ := h
  exact ⟨ok i, h1 i T hi⟩
theorem Sep.op2 (h : Sep w0 L w) (i : Nat) (T : Th) (hi : L[i]? = some T) :
    ∃ ok : Nat → Prop, T.P ok w ∧ (∀ b, ok b → w0.heap.size ≤ b) ∧ ∀ (w' : World) (T' T2 : Th) (ok' ok2 : Nat → Prop), T'.P ok' w' → T2.P ok2 w' → (∀ b, ok' b → ok b ∨ w.heap.size ≤ b) → (∀ b, ok2 b → w.heap.size ≤ b) → (∀ b, ok' b → ¬ ok2 b) → Chg ok w w' →
      Sep w0 (L.set i T' ++ [T2]) w' := by
  obtain ⟨ok, h1, h2, h3, h4⟩ := h
  refine ⟨ok i, h1 i T hi, fun b hb => (h3 i b hb).1, fun w' T' T2 ok' ok2 p1 p2 hs hs2 hd hc => ⟨fun j b => if j = i then ok' b ∧ b < w'.heap.size else if j = L.length then ok2 b ∧ b < w'.heap.size else ok j b, ?_, ?_, ?_, ?_⟩⟩
  · intro j U hj
    have hil : i < L.length := (List.getElem?_eq_some_iff.1 hi).1
    rw [List.getElem?_append, List.length_set] at hj
    split at hj
    · rename_i hjl
      by_cases e : j = i
      · subst e
        rw [List.getElem?_set_self hil] at hj
        injection hj with hj
        subst hj
        simp only [if_true]
        exact T'.bnd p1
      · rw [List.getElem?_set_ne (Ne.symm e)] at hj
        simp only [if_neg e, if_neg (show ¬ j = L.length by omega)]
        exact U.loc (h1 j U hj) (fun b hb hlt => hc.keep b hlt (fun hb2 => h2 j i b e hb hb2))
    · rename_i hjl
      rcases Nat.lt_or_ge (j - L.length) 1 with h5 | h5
      · have e : j = L.length := by omega
        subst e
        simp at hj
        subst hj
        simp only [if_neg (show ¬ L.length = i by omega), if_true]
        exact T2.bnd p2
      · rw [List.getElem?_eq_none (by simpa using h5)] at hj; cases hj
  · intro j l b hjl hj hl
    have old : ∀ m c, ok m c → c < w.heap.size := fun m c hm => (h3 m c hm).2
    split at hj
    · split at hl
      · omega
      · split at hl
        · exact hd b hj.1 hl.1
        · rcases hs b hj.1 with h | h
          · rename_i ej el _
            exact h2 i l b (Ne.symm el) h hl
          · have := old l b hl; omega
    · rename_i ej
      split at hj
      · split at hl
        · exact hd b hl.1 hj.1
        · rename_i el
          split at hl
          · omega
          · have := hs2 b hj.1; have := old l b hl; omega
      · split at hl
        · rcases hs b hl.1 with h | h
          · exact h2 j i b ej hj h
          · have := old j b hj; omega
        · split at hl
          · have := hs2 b hl.1; have := old j b hj; omega
          · exact h2 j l b hjl hj hl
  · intro j b hj
    split at hj
    · refine ⟨?_, hj.2⟩
      rcases hs b hj.1 with h | h
      · exact (h3 i b h).1
      · have := h4.size; omega
    · split at hj
      · have := h4.size; have := hs2 b hj.1; exact ⟨by omega, hj.2⟩
      · exact ⟨(h3 j b hj).1, Nat.lt_of_lt_of_le (h3 j b hj).2 hc.size⟩
  · exact hc.below_of h4 (fun b hb => (h3 i b hb).1)
theorem Sep.init (h : Sep w0 (L ++ [T]) w) : Sep w0 L w := by
  obtain ⟨ok, h1, h2, h3, h4⟩ := h
  exact ⟨ok, fun i U hU => h1 i U (by rw [List.getElem?_append_left (List.getElem?_eq_some_iff.1 hU).1]; exact hU), h2, h3, h4⟩
def noT : Th := ⟨fun _ _ => True, fun _ _ => trivial, fun _ => trivial⟩
theorem Sep.op (h : Sep w0 L w) (i : Nat) (T : Th) (hi : L[i]? = some T) :
    ∃ ok : Nat → Prop, T.P ok w ∧ (∀ b, ok b → w0.heap.size ≤ b) ∧ ∀ (w' : World) (T' : Th) (ok' : Nat → Prop), T'.P ok' w' → (∀ b, ok' b → ok b ∨ w.heap.size ≤ b) → Chg ok w w' → Sep w0 (L.set i T') w' := by
  obtain ⟨ok, h1, h2, h3⟩ := h.op2 i T hi
  exact ⟨ok, h1, h2, fun w' T' ok' p1 hs hc => (h3 w' T' noT ok' (fun _ => False) p1 trivial hs (fun _ hb => hb.elim) (fun _ _ hb => hb) hc).init⟩
theorem Sep.new (h : Sep w0 L w) (T : Th) {ok : Nat → Prop} (hs : T.P ok w') (hn : ∀ b, ok b → w.heap.size ≤ b) (hb : Below w.heap.size w w') : Sep w0 (L ++ [T]) w' := by
  have hl := h.later hb
  obtain ⟨oks, h1, h2, h3, h4⟩ := h
  obtain ⟨_, _, _, _, h5⟩ := hl
  refine ⟨fun j b => if j = L.length then ok b ∧ b < w'.heap.size else oks j b, ?_, ?_, ?_, h5⟩
  · intro j U hj
    rw [List.getElem?_append] at hj
    split at hj
    · simp only [if_neg (show ¬ j = L.length by omega)]
      exact U.loc (h1 j U hj) (fun b _ hlt => hb.block b hlt)
    · rcases Nat.lt_or_ge (j - L.length) 1 with h6 | h6
      · have e : j = L.length := by omega
        subst e
        simp at hj
        subst hj
        simp only [if_true]
        exact T.bnd hs
      · rw [List.getElem?_eq_none (by simpa using h6)] at hj; cases hj
  · intro j l b hjl hj hl
    split at hj
    · split at hl
      · omega
      · have := hn b hj.1; have := (h3 l b hl).2; omega
    · split at hl
      · have := hn b hl.1; have := (h3 j b hj).2; omega
      · exact h2 j l b hjl hj hl
  · intro j b hj
    split at hj
    · have := h4.size; have := hn b hj.1; exact ⟨by omega, hj.2⟩
    · exact ⟨(h3 j b hj).1, Nat.lt_of_lt_of_le (h3 j b hj).2 hb.size⟩
theorem Sep.row {α : Type} {d : Kd α} {e base : Nat} {v : Value} {xs : List α} (h : Sep w0 L w) (i : Nat) (hi : L[i]? = some (rowT d e base v xs)) :
    ∃ ok : Nat → Prop, d.R e w base ok v xs ∧ (∀ k, w.heap.size ≤ k → ok k) ∧ ∀ (v1 : Value) (w1 : World) (xs1 : List α), d.R e w1 base ok v1 xs1 → w.grownBy w1 v.ownBlock → Sep w0 (L.set i (rowT d e base v1 xs1)) w1 := by
  obtain ⟨ok, h1, h2, h3⟩ := h.op i _ hi
  have h1' : d.R e w base ok v xs := h1
  exact ⟨fun b => ok b ∨ w.heap.size ≤ b, Kd.R_mono h1' (fun _ hk => .inl hk), fun _ hk => .inr hk, fun v1 w1 xs1 hr hg =>
    h3 w1 (rowT d e base v1 xs1) _ hr (fun _ hb => hb) ((Chg.refl ok w).grown hg (fun k hk => .inl (h1'.1 k hk)))⟩
theorem Sep.reads {α : Type} {d : Kd α} {e base : Nat} {v : Value} {xs : List α} (h : Sep w0 L w) (i : Nat) (hi : L[i]? = some (rowT d e base v xs)) : ∃ A c, v = .slice A xs.length c ∧ xs.length ≤ c ∧ d.C w A xs.length xs := by
  obtain ⟨ok, h1⟩ := h.one i _ hi
  exact Kd.R_reads (show d.R e w base ok v xs from h1)
theorem Sep.empty {α : Type} (d : Kd α) (e base : Nat) (h : Sep w0 L w) : Sep w0 (L ++ [rowT d e base (.slice none 0 0) []]) w :=
  h.new (rowT d e base (.slice none 0 0) []) (ok := fun _ => False) (Kd.R_nil d e w base _) (fun _ h => h.elim) (Below.refl _ _)
end
end Go.Proofs.YtiggjbclbdikmaaDoor.Fm
namespace Go.Proofs.YtiggjbclbdikmaaDoor.X
open Go.RowKit Go.Proofs.YtiggjbclbdikmaaDoorW.PrintWords Go.Proofs.YtiggjbclbdikmaaDoorW.PrintLast Go.Proofs.YtiggjbclbdikmaaDoorW.PrintMore
attribute [local go_sem] max2_int min2_int max_two min_two max_three min_three max_four min_four   
set_option linter.unusedVariables false
set_option linter.unusedSimpArgs false
def utf_lead.j0 : Nat → Int → Int → Int → Bool → Option (Int × Int × Int × Int)
 | 0, _, _, _, _ => none
 | k + 1, x0, x4, x5, x13 => if x13 = true then (some (0, 0, x4, x5)) else (if x0 < 224 then (some (2, wrap32 (Go.bits .and .u8 x0 31), x4, x5)) else (if x0 < 240 then (if x0 = 224 then (some (3, wrap32 (Go.bits .and .u8 x0 15), 160, x5)) else (if x0 = 237 then (some (3, wrap32 (Go.bits .and .u8 x0 15), x4, 159)) else (some (3, wrap32 (Go.bits .and .u8 x0 15), x4, x5)))) else (if x0 = 240 then (some (4, wrap32 (Go.bits .and .u8 x0 7), 144, x5)) else (if x0 = 244 then (some (4, wrap32 (Go.bits .and .u8 x0 7), x4, 143)) else (some (4, wrap32 (Go.bits .and .u8 x0 7), x4, x5))))))
def utf_lead.f (k : Nat) (a0 : Int) : Option (Int × Int × Int × Int) := if a0 < 128 then (some (1, wrap32 (a0), 128, 191)) else (if a0 < 194 then (utf_lead.j0 k a0 128 191 true) else (utf_lead.j0 k a0 128 191 (decide (a0 > 244))))
theorem utf_lead.mono_l : ∀ k, (∀ y0 y1 y2 y3, LeO (utf_lead.j0 k y0 y1 y2 y3) (utf_lead.j0 (k + 1) y0 y1 y2 y3))
 | 0 => fun _ _ _ _ r h => by simp [utf_lead.j0] at h
 | k + 1 => by
  have ih0 := utf_lead.mono_l k
  ·intro y0 y1 y2 y3
   unfold utf_lead.j0
   repeat' first
   | (with_reducible exact ih0 _ _ _ _)
   | (with_reducible exact LeO.refl _)
   | (with_reducible exact LeO.none _)
   | (with_reducible refine LeO.ite ?_ ?_)
   | (with_reducible refine LeO.bind ?_ (fun _ => ?_))
   | exact ih0 _ _ _ _
   | exact LeO.none _
   | refine LeO.ite ?_ ?_
   | refine LeO.bind ?_ (fun _ => ?_)
theorem utf_lead.mono : ∀ a0 k, LeO (utf_lead.f k a0) (utf_lead.f (k + 1) a0) := by
 intro a0 k
 have ih0 := utf_lead.mono_l k
 unfold utf_lead.f
 repeat' first
   | (with_reducible exact ih0 _ _ _ _)
   | (with_reducible exact LeO.refl _)
   | (with_reducible exact LeO.none _)
   | (with_reducible refine LeO.ite ?_ ?_)
   | (with_reducible refine LeO.bind ?_ (fun _ => ?_))
   | exact ih0 _ _ _ _
   | exact LeO.none _
   | refine LeO.ite ?_ ?_
   | refine LeO.bind ?_ (fun _ => ?_)
set_option maxHeartbeats 8000000 in
set_option maxRecDepth 100000 in
theorem utf_lead.calls (k : Nat) (a0 : Int) (r1 : Int) (r2 : Int) (r3 : Int) (r4 : Int) (w : World) (h : utf_lead.f k a0 = some (r1, r2, r3, r4)) :
  Calls Tryd.prog 95 #[.int .u8 a0] w fun e w' => e = .returned (.tuple #[.int .i64 r1, .int .i32 r2, .int .u8 r3, .int .u8 r4]) ∧ Drawn0 w w' := by
 have H : (if a0 < 128 then (some (1, wrap32 (a0), 128, 191)) else (if a0 < 194 then (utf_lead.j0 k a0 128 191 true) else (utf_lead.j0 k a0 128 191 (decide (a0 > 244))))) = some (r1, r2, r3, r4) := h
 clear h
 by_cases c2 : a0 < 128
 ·rw [if_pos c2] at H
  have c2b0 : decide (a0 < 128) = true := decide_eq_true c2
  clear c2
  simp only [Option.some.injEq, Prod.mk.injEq] at H
  obtain ⟨rfl, rfl, rfl, rfl⟩ := H
  go_enter Tryd.func95, Tryd.ntmps95
  go_wp2
  refine bodyPost_ret (results_list (rs := [.tmp 2, .tmp 3, .tmp 4, .tmp 5]) rfl (by simp) (.tmp (.tmp (.tmp (.tmp .nil))))) rfl ?_
  exact ⟨by first | rfl | (simp; done) | (simp [*]; done), by repeat (first | exact Drawn0.refl _ | apply Drawn0.step)⟩
 ·rw [if_neg c2] at H
  have c2b0 : decide (a0 < 128) = false := decide_eq_false c2
  clear c2
  have HC3 := Aside0.mk H
  clear H
  go_enter Tryd.func95, Tryd.ntmps95
  go_upto_region 4 with (fail)
  go_cut [13] (fun v13 wc => ∃ (kq : Nat) (x13_2 : Bool), v13 = .bool x13_2 ∧ Aside0 (utf_lead.j0 kq a0 128 191 x13_2 = some (r1, r2, r3, r4)) ∧ Aside0 (kq ≤ k) ∧ Drawn0 w wc)
  case first =>
   have H := HC3.out
   clear HC3
   by_cases c4 : a0 < 194
   ·rw [if_pos c4] at H
    have c4b0 : decide (a0 < 194) = true := decide_eq_true c4
    clear c4
    (first | rw [c4b0] | (simp only [i64_w, i32_w]; rw [c4b0]) | skip)
    have H' := Aside0.mk H
    clear H
    go_wp2
    go_meet
    case rel => exact ⟨_, (true), (by first | rfl | (simp; done) | (simp [*]; done)), H', ⟨by first | omega | exact Nat.le_refl _⟩, by repeat (first | exact Drawn0.refl _ | apply Drawn0.step)⟩
   ·rw [if_neg c4] at H
    have c4b0 : decide (a0 < 194) = false := decide_eq_false c4
    clear c4
    (first | rw [c4b0] | (simp only [i64_w, i32_w]; rw [c4b0]) | skip)
    have H' := Aside0.mk H
    clear H
    go_wp2
    go_meet
    case rel => exact ⟨_, (decide (a0 > 244)), (by first | rfl | (simp; done) | (simp [*]; done)), H', ⟨by first | omega | exact Nat.le_refl _⟩, by repeat (first | exact Drawn0.refl _ | apply Drawn0.step)⟩
  case rest =>
   clear HC3
   try clear c2
   try clear c2b0
   try clear p2
   try clear p3
   try clear c4
   try clear c4b0
   obtain ⟨kq, x13_2, rfl, HA, HJ2, ⟨mc2, rfl⟩⟩ := hcut
   cases kq with
   | zero => exact absurd HA.out (by simp [utf_lead.j0])
   | succ kj2 =>
    have H := HA.out
    clear HA
    simp only [utf_lead.j0] at H
    by_cases c5 : x13_2 = true
    ·subst c5
     have H1 : (some (0, 0, 128, 191)) = some (r1, r2, r3, r4) := by rw [if_pos rfl] at H; exact H
     clear H
     have H := H1
     clear H1
     simp only [Option.some.injEq, Prod.mk.injEq] at H
     obtain ⟨rfl, rfl, rfl, rfl⟩ := H
     go_wp2
     refine bodyPost_ret (results_list (rs := [.tmp 2, .tmp 3, .tmp 4, .tmp 5]) rfl (by simp) (.tmp (.tmp (.tmp (.tmp .nil))))) rfl ?_
     exact ⟨by first | rfl | (simp; done) | (simp [*]; done), by repeat (first | exact Drawn0.refl _ | apply Drawn0.step)⟩
    ·replace c5 := Bool.eq_false_iff.mpr c5
     subst c5
     have H1 : (if a0 < 224 then (some (2, wrap32 (Go.bits .and .u8 a0 31), 128, 191)) else (if a0 < 240 then (if a0 = 224 then (some (3, wrap32 (Go.bits .and .u8 a0 15), 160, 191)) else (if a0 = 237 then (some (3, wrap32 (Go.bits .and .u8 a0 15), 128, 159)) else (some (3, wrap32 (Go.bits .and .u8 a0 15), 128, 191)))) else (if a0 = 240 then (some (4, wrap32 (Go.bits .and .u8 a0 7), 144, 191)) else (if a0 = 244 then (some (4, wrap32 (Go.bits .and .u8 a0 7), 128, 143)) else (some (4, wrap32 (Go.bits .and .u8 a0 7), 128, 191)))))) = some (r1, r2, r3, r4) := by rw [if_neg (show ¬ (false = true) by decide)] at H; exact H
     clear H
     have H := H1
     clear H1
     by_cases c6 : a0 < 224
     ·rw [if_pos c6] at H
      have c6b0 : decide (a0 < 224) = true := decide_eq_true c6
      clear c6
      simp only [Option.some.injEq, Prod.mk.injEq] at H
      obtain ⟨rfl, rfl, rfl, rfl⟩ := H
      go_wp2
      refine bodyPost_ret (results_list (rs := [.tmp 2, .tmp 3, .tmp 4, .tmp 5]) rfl (by simp) (.tmp (.tmp (.tmp (.tmp .nil))))) rfl ?_
      exact ⟨by first | rfl | (simp; done) | (simp [*]; done), by repeat (first | exact Drawn0.refl _ | apply Drawn0.step)⟩
     ·rw [if_neg c6] at H
      have c6b0 : decide (a0 < 224) = false := decide_eq_false c6
      clear c6
      by_cases c7 : a0 < 240
      ·rw [if_pos c7] at H
       have c7b0 : decide (a0 < 240) = true := decide_eq_true c7
       clear c7
       by_cases c8 : a0 = 224
       ·rw [if_pos c8] at H
        have c8b0 : (a0 == 224) = true := beq_iff_eq.mpr c8
        have c8b1 : (a0 != 224) = false := bne_eq_false_iff_eq.mpr c8
        clear c8
        simp only [Option.some.injEq, Prod.mk.injEq] at H
        obtain ⟨rfl, rfl, rfl, rfl⟩ := H
        go_wp2
        refine bodyPost_ret (results_list (rs := [.tmp 2, .tmp 3, .tmp 4, .tmp 5]) rfl (by simp) (.tmp (.tmp (.tmp (.tmp .nil))))) rfl ?_
        exact ⟨by first | rfl | (simp; done) | (simp [*]; done), by repeat (first | exact Drawn0.refl _ | apply Drawn0.step)⟩
       ·rw [if_neg c8] at H
        have c8b0 : (a0 == 224) = false := beq_eq_false_iff_ne.mpr c8
        have c8b1 : (a0 != 224) = true := bne_iff_ne.mpr c8
        by_cases c9 : a0 = 237
        ·rw [if_pos c9] at H
         have c9b0 : (a0 == 237) = true := beq_iff_eq.mpr c9
         have c9b1 : (a0 != 237) = false := bne_eq_false_iff_eq.mpr c9
         clear c9
         simp only [Option.some.injEq, Prod.mk.injEq] at H
         obtain ⟨rfl, rfl, rfl, rfl⟩ := H
         go_wp2
         refine bodyPost_ret (results_list (rs := [.tmp 2, .tmp 3, .tmp 4, .tmp 5]) rfl (by simp) (.tmp (.tmp (.tmp (.tmp .nil))))) rfl ?_
         exact ⟨by first | rfl | (simp; done) | (simp [*]; done), by repeat (first | exact Drawn0.refl _ | apply Drawn0.step)⟩
        ·rw [if_neg c9] at H
         have c9b0 : (a0 == 237) = false := beq_eq_false_iff_ne.mpr c9
         have c9b1 : (a0 != 237) = true := bne_iff_ne.mpr c9
         simp only [Option.some.injEq, Prod.mk.injEq] at H
         obtain ⟨rfl, rfl, rfl, rfl⟩ := H
         go_wp2
         refine bodyPost_ret (results_list (rs := [.tmp 2, .tmp 3, .tmp 4, .tmp 5]) rfl (by simp) (.tmp (.tmp (.tmp (.tmp .nil))))) rfl ?_
         exact ⟨by first | rfl | (simp; done) | (simp [*]; done), by repeat (first | exact Drawn0.refl _ | apply Drawn0.step)⟩
      ·rw [if_neg c7] at H
       have c7b0 : decide (a0 < 240) = false := decide_eq_false c7
       clear c7
       by_cases c10 : a0 = 240
       ·rw [if_pos c10] at H
        have c10b0 : (a0 == 240) = true := beq_iff_eq.mpr c10
        have c10b1 : (a0 != 240) = false := bne_eq_false_iff_eq.mpr c10
        clear c10
        simp only [Option.some.injEq, Prod.mk.injEq] at H
        obtain ⟨rfl, rfl, rfl, rfl⟩ := H
        go_wp2
        refine bodyPost_ret (results_list (rs := [.tmp 2, .tmp 3, .tmp 4, .tmp 5]) rfl (by simp) (.tmp (.tmp (.tmp (.tmp .nil))))) rfl ?_
        exact ⟨by first | rfl | (simp; done) | (simp [*]; done), by repeat (first | exact Drawn0.refl _ | apply Drawn0.step)⟩
       ·rw [if_neg c10] at H
        have c10b0 : (a0 == 240) = false := beq_eq_false_iff_ne.mpr c10
        have c10b1 : (a0 != 240) = true := bne_iff_ne.mpr c10
        by_cases c11 : a0 = 244
        ·rw [if_pos c11] at H
         have c11b0 : (a0 == 244) = true := beq_iff_eq.mpr c11
         have c11b1 : (a0 != 244) = false := bne_eq_false_iff_eq.mpr c11
         clear c11
         simp only [Option.some.injEq, Prod.mk.injEq] at H
         obtain ⟨rfl, rfl, rfl, rfl⟩ := H
         go_wp2
         refine bodyPost_ret (results_list (rs := [.tmp 2, .tmp 3, .tmp 4, .tmp 5]) rfl (by simp) (.tmp (.tmp (.tmp (.tmp .nil))))) rfl ?_
         exact ⟨by first | rfl | (simp; done) | (simp [*]; done), by repeat (first | exact Drawn0.refl _ | apply Drawn0.step)⟩
        ·rw [if_neg c11] at H
         have c11b0 : (a0 == 244) = false := beq_eq_false_iff_ne.mpr c11
         have c11b1 : (a0 != 244) = true := bne_iff_ne.mpr c11
         simp only [Option.some.injEq, Prod.mk.injEq] at H
         obtain ⟨rfl, rfl, rfl, rfl⟩ := H
         go_wp2
         refine bodyPost_ret (results_list (rs := [.tmp 2, .tmp 3, .tmp 4, .tmp 5]) rfl (by simp) (.tmp (.tmp (.tmp (.tmp .nil))))) rfl ?_
         exact ⟨by first | rfl | (simp; done) | (simp [*]; done), by repeat (first | exact Drawn0.refl _ | apply Drawn0.step)⟩
end Go.Proofs.YtiggjbclbdikmaaDoor.X
namespace Go.Proofs.YtiggjbclbdikmaaDoor.X
open Go.RowKit Go.Proofs.YtiggjbclbdikmaaDoorW.PrintWords Go.Proofs.YtiggjbclbdikmaaDoorW.PrintLast Go.Proofs.YtiggjbclbdikmaaDoorW.PrintMore
attribute [local go_sem] max2_int min2_int max_two min_two max_three min_three max_four min_four   
set_option linter.unusedVariables false
set_option linter.unusedSimpArgs false
def utf_one.l0 : Nat → List Int → Int → Int → Int → Int → Int → Option (Int × Int × Bool)
 | 0, _, _, _, _, _, _ => none
 | k + 1, x0, x2, x5, x6, x7, x8 => if x8 < x5 then (if x8 = (x0.length : Int) then (some (65533, x8, true)) else (if 0 ≤ x8 then (if x8 < (x0.length : Int) then (if (rd x0 x8) < x6 then (some (65533, x8, false)) else (if (rd x0 x8) > x7 then (some (65533, x8, false)) else (utf_one.l0 k x0 (Go.bits .or .i32 (wrap32 (x2 * 64)) (wrap32 (Go.bits .and .u8 (rd x0 x8) 63))) x5 128 191 (wrap64 (x8 + 1))))) else (none)) else (none))) else (some (x2, x5, false))
def utf_one.f (k : Nat) (l0 : List Int) : Option (Int × Int × Bool) := if 0 < (l0.length : Int) then ((utf_lead.f k (rd l0 0)).bind fun bt470 => (if bt470.1 = 0 then (some (65533, 1, false)) else (utf_one.l0 k l0 bt470.2.1 bt470.1 bt470.2.2.1 bt470.2.2.2 1))) else (none)
theorem utf_one.mono_l : ∀ k, (∀ y0 y1 y2 y3 y4 y5, LeO (utf_one.l0 k y0 y1 y2 y3 y4 y5) (utf_one.l0 (k + 1) y0 y1 y2 y3 y4 y5))
 | 0 => fun _ _ _ _ _ _ r h => by simp [utf_one.l0] at h
 | k + 1 => by
  have ih0 := utf_one.mono_l k
  ·intro y0 y1 y2 y3 y4 y5
   unfold utf_one.l0
   repeat' first
   | (with_reducible exact ih0 _ _ _ _ _ _)
   | (with_reducible exact utf_lead.mono _ _)
   | (with_reducible exact LeO.refl _)
   | (with_reducible exact LeO.none _)
   | (with_reducible refine LeO.ite ?_ ?_)
   | (with_reducible refine LeO.bind ?_ (fun _ => ?_))
   | exact ih0 _ _ _ _ _ _
   | exact utf_lead.mono _ _
   | exact LeO.none _
   | refine LeO.ite ?_ ?_
   | refine LeO.bind ?_ (fun _ => ?_)
theorem utf_one.mono : ∀ a0 k, LeO (utf_one.f k a0) (utf_one.f (k + 1) a0) := by
 intro a0 k
 have ih0 := utf_one.mono_l k
 unfold utf_one.f
 repeat' first
   | (with_reducible exact ih0 _ _ _ _ _ _)
   | (with_reducible exact utf_lead.mono _ _)
   | (with_reducible exact LeO.refl _)
   | (with_reducible exact LeO.none _)
   | (with_reducible refine LeO.ite ?_ ?_)
   | (with_reducible refine LeO.bind ?_ (fun _ => ?_))
   | exact ih0 _ _ _ _ _ _
   | exact utf_lead.mono _ _
   | exact LeO.none _
   | refine LeO.ite ?_ ?_
   | refine LeO.bind ?_ (fun _ => ?_)
set_option maxHeartbeats 8000000 in
set_option maxRecDepth 100000 in
theorem utf_one.calls (k : Nat) (A0 : Option Addr) (c0 : Nat) (l0 : List Int) (r1 : Int) (r2 : Int) (r3 : Bool) (w : World) (hr0 : Kd.C (Kd.int .u8) w A0 l0.length l0) (hc0 : l0.length ≤ c0) (h : utf_one.f k l0 = some (r1, r2, r3)) :
  Calls Tryd.prog 88 #[.slice A0 l0.length c0] w fun e w' => e = .returned (.tuple #[.int .i32 r1, .int .i64 r2, .bool r3]) ∧ Drawn0 w w' := by
 have HR0 := Aside0.mk hr0
 have HC0 := Aside0.mk hc0
 clear hr0 hc0
 have H : (if 0 < (l0.length : Int) then ((utf_lead.f k (rd l0 0)).bind fun bt470 => (if bt470.1 = 0 then (some (65533, 1, false)) else (utf_one.l0 k l0 bt470.2.1 bt470.1 bt470.2.2.1 bt470.2.2.2 1))) else (none)) = some (r1, r2, r3) := h
 clear h
 by_cases c2 : 0 < (l0.length : Int)
 ·rw [if_pos c2] at H
  have c2b0 : decide (0 < (l0.length : Int)) = true := decide_eq_true c2
  have c2b1 : decide (0 < l0.length) = true := decide_eq_true (by omega)
  clear c2
  replace H := Option.bind_eq_some_iff.mp H
  obtain ⟨⟨t470, t471, t472, t473⟩, A30, H⟩ := H
  replace H : (if t470 = 0 then (some (65533, 1, false)) else (utf_one.l0 k l0 t471 t470 t472 t473 1)) = some (r1, r2, r3) := H
  have A3 := Aside0.mk A30
  clear A30
  by_cases c4 : t470 = 0
  ·rw [if_pos c4] at H
   have c4b0 : (t470 == 0) = true := beq_iff_eq.mpr c4
   have c4b1 : (t470 != 0) = false := bne_eq_false_iff_eq.mpr c4
   clear c4
   simp only [Option.some.injEq, Prod.mk.injEq] at H
   obtain ⟨rfl, rfl, rfl⟩ := H
   have p469 : 0 ≤ (0 : Int) := (by omega)
   have q469 : 0 < (l0.length : Int) := of_decide_eq_true (by first | (with_reducible assumption) | assumption)
   obtain ⟨ad469, e469, hx469_0⟩ := Kd.at_int HR0.out 0 p469 q469
   cases e469
   have qi469 : (0 < l0.length) = True := eq_true (by omega)
   (try rw [show ((0 : Int)).toNat = 0 from rfl] at hx469_0)
   (try rw [Addr.add_zero'] at hx469_0)
   replace p469 := eq_true p469
   replace q469 := eq_true q469
   go_enter Tryd.func88, Tryd.ntmps88
   go_wp2_with (first | ((with_reducible refine gate_callee (f := 95) rfl ?_); refine goesL_ (some 13) rfl rfl Tryd.func95 (by kernel_rfl) rfl #[.int .u8 (rd l0 0)] rfl (by (try simp only [List.map_toArray, List.map_cons, List.map_nil]); first | done | rfl | (simp only [List.length_drop, List.length_take]; rfl)) ?_; (with_reducible refine (utf_lead.calls k (rd l0 0) t470 t471 t472 t473 _ A3.out).mono ?_); rintro e w' ⟨rfl, ⟨nd, rfl⟩⟩; refine ⟨_, rfl, ?_⟩))
   go_ret3
   exact ⟨by first | rfl | (simp; done) | (simp [*]; done), by repeat (first | exact Drawn0.refl _ | apply Drawn0.step)⟩
  ·rw [if_neg c4] at H
   have c4b0 : (t470 == 0) = false := beq_eq_false_iff_ne.mpr c4
   have c4b1 : (t470 != 0) = true := bne_iff_ne.mpr c4
   have H' := Aside0.mk H
   clear H
   have p469 : 0 ≤ (0 : Int) := (by omega)
   have q469 : 0 < (l0.length : Int) := of_decide_eq_true (by first | (with_reducible assumption) | assumption)
   obtain ⟨ad469, e469, hx469_0⟩ := Kd.at_int HR0.out 0 p469 q469
   cases e469
   have qi469 : (0 < l0.length) = True := eq_true (by omega)
   (try rw [show ((0 : Int)).toNat = 0 from rfl] at hx469_0)
   (try rw [Addr.add_zero'] at hx469_0)
   replace p469 := eq_true p469
   replace q469 := eq_true q469
   go_enter Tryd.func88, Tryd.ntmps88
   go_wp2_with (first | ((with_reducible refine gate_callee (f := 95) rfl ?_); refine goesL_ (some 13) rfl rfl Tryd.func95 (by kernel_rfl) rfl #[.int .u8 (rd l0 0)] rfl (by (try simp only [List.map_toArray, List.map_cons, List.map_nil]); first | done | rfl | (simp only [List.length_drop, List.length_take]; rfl)) ?_; (with_reducible refine (utf_lead.calls k (rd l0 0) t470 t471 t472 t473 _ A3.out).mono ?_); rintro e w' ⟨rfl, ⟨nd, rfl⟩⟩; refine ⟨_, rfl, ?_⟩))
   go_loopg [2, 6, 7, 8] k (fun kq v2 v6 v7 v8 w' => ∃ (x2_1 : Int) (x6_1 : Int) (x7_1 : Int) (x8_1 : Int), v2 = .int .i32 x2_1 ∧ v6 = .int .u8 x6_1 ∧ v7 = .int .u8 x7_1 ∧ v8 = .int .i64 x8_1 ∧ Aside0 (utf_one.l0 kq l0 x2_1 t470 x6_1 x7_1 x8_1 = some (r1, r2, r3)) ∧ Aside0 (kq ≤ k) ∧ Drawn0 w w')
   case atStart => exact ⟨(t471), (t472), (t473), (1), (by first | rfl | (simp; done) | (simp [*]; done)), (by first | rfl | (simp; done) | (simp [*]; done)), (by first | rfl | (simp; done) | (simp [*]; done)), (by first | rfl | (simp; done) | (simp [*]; done)), H', ⟨Nat.le_refl _⟩, by repeat (first | exact Drawn0.refl _ | apply Drawn0.step)⟩
   case round =>
    clear H'
    try clear c2
    try clear c2b0
    try clear c2b1
    try clear p2
    try clear c4
    try clear c4b0
    try clear c4b1
    try clear p4
    try clear q4
    try clear hx4
    try clear qi4
    try clear hx469_0
    try clear p469
    try clear q469
    obtain ⟨x2_1, x6_1, x7_1, x8_1, rfl, rfl, rfl, rfl, HA, HK1, ⟨m1, rfl⟩⟩ := hrel
    cases gk with
    | zero => exact absurd HA.out (by simp [utf_one.l0])
    | succ k1 =>
     have H := HA.out
     clear HA
     simp only [utf_one.l0] at H
     by_cases c5 : x8_1 < t470
     ·rw [if_pos c5] at H
      have c5b0 : decide (x8_1 < t470) = true := decide_eq_true c5
      clear c5
      by_cases c6 : x8_1 = (l0.length : Int)
      ·rw [if_pos c6] at H
       have c6b0 : (x8_1 == (l0.length : Int)) = true := beq_iff_eq.mpr c6
       have c6b1 : (x8_1 != (l0.length : Int)) = false := bne_eq_false_iff_eq.mpr c6
       clear c6
       simp only [Option.some.injEq, Prod.mk.injEq] at H
       obtain ⟨rfl, rfl, rfl⟩ := H
       go_wp2
       go_ret3
       exact ⟨by first | rfl | (simp; done) | (simp [*]; done), by repeat (first | exact Drawn0.refl _ | apply Drawn0.step)⟩
      ·rw [if_neg c6] at H
       have c6b0 : (x8_1 == (l0.length : Int)) = false := beq_eq_false_iff_ne.mpr c6
       have c6b1 : (x8_1 != (l0.length : Int)) = true := bne_iff_ne.mpr c6
       by_cases c7 : 0 ≤ x8_1
       ·rw [if_pos c7] at H
        have c7b0 : decide (0 ≤ x8_1) = true := decide_eq_true c7
        clear c7
        by_cases c8 : x8_1 < (l0.length : Int)
        ·rw [if_pos c8] at H
         have c8b0 : decide (x8_1 < (l0.length : Int)) = true := decide_eq_true c8
         clear c8
         by_cases c9 : (rd l0 x8_1) < x6_1
         ·rw [if_pos c9] at H
          have c9b0 : decide ((rd l0 x8_1) < x6_1) = true := decide_eq_true c9
          clear c9
          simp only [Option.some.injEq, Prod.mk.injEq] at H
          obtain ⟨rfl, rfl, rfl⟩ := H
          have p474 : 0 ≤ (x8_1 : Int) := of_decide_eq_true (by first | (with_reducible assumption) | assumption)
          have q474 : x8_1 < (l0.length : Int) := of_decide_eq_true (by first | (with_reducible assumption) | assumption)
          obtain ⟨ad474, e474, hx474_0⟩ := Kd.at_int HR0.out x8_1 p474 q474
          obtain rfl : ad469 = ad474 := (by injection e474)
          replace p474 := eq_true p474
          replace q474 := eq_true q474
          go_wp2
          go_ret3
          exact ⟨by first | rfl | (simp; done) | (simp [*]; done), by repeat (first | exact Drawn0.refl _ | apply Drawn0.step)⟩
         ·rw [if_neg c9] at H
          have c9b0 : decide ((rd l0 x8_1) < x6_1) = false := decide_eq_false c9
          clear c9
          by_cases c10 : (rd l0 x8_1) > x7_1
          ·rw [if_pos c10] at H
           have c10b0 : decide (x7_1 < (rd l0 x8_1)) = true := decide_eq_true c10
           clear c10
           simp only [Option.some.injEq, Prod.mk.injEq] at H
           obtain ⟨rfl, rfl, rfl⟩ := H
           have p474 : 0 ≤ (x8_1 : Int) := of_decide_eq_true (by first | (with_reducible assumption) | assumption)
           have q474 : x8_1 < (l0.length : Int) := of_decide_eq_true (by first | (with_reducible assumption) | assumption)
           obtain ⟨ad474, e474, hx474_0⟩ := Kd.at_int HR0.out x8_1 p474 q474
           obtain rfl : ad469 = ad474 := (by injection e474)
           replace p474 := eq_true p474
           replace q474 := eq_true q474
           have p475 : 0 ≤ (x8_1 : Int) := of_decide_eq_true (by first | (with_reducible assumption) | assumption)
           have q475 : x8_1 < (l0.length : Int) := of_decide_eq_true (by first | (with_reducible assumption) | assumption)
           obtain ⟨ad475, e475, hx475_0⟩ := Kd.at_int HR0.out x8_1 p475 q475
           obtain rfl : ad469 = ad475 := (by injection e475)
           replace p475 := eq_true p475
           replace q475 := eq_true q475
           go_wp2
           go_ret3
           exact ⟨by first | rfl | (simp; done) | (simp [*]; done), by repeat (first | exact Drawn0.refl _ | apply Drawn0.step)⟩
          ·rw [if_neg c10] at H
           have c10b0 : decide (x7_1 < (rd l0 x8_1)) = false := decide_eq_false c10
           clear c10
           have H' := Aside0.mk H
           clear H
           have p474 : 0 ≤ (x8_1 : Int) := of_decide_eq_true (by first | (with_reducible assumption) | assumption)
           have q474 : x8_1 < (l0.length : Int) := of_decide_eq_true (by first | (with_reducible assumption) | assumption)
           obtain ⟨ad474, e474, hx474_0⟩ := Kd.at_int HR0.out x8_1 p474 q474
           obtain rfl : ad469 = ad474 := (by injection e474)
           replace p474 := eq_true p474
           replace q474 := eq_true q474
           have p475 : 0 ≤ (x8_1 : Int) := of_decide_eq_true (by first | (with_reducible assumption) | assumption)
           have q475 : x8_1 < (l0.length : Int) := of_decide_eq_true (by first | (with_reducible assumption) | assumption)
           obtain ⟨ad475, e475, hx475_0⟩ := Kd.at_int HR0.out x8_1 p475 q475
           obtain rfl : ad469 = ad475 := (by injection e475)
           replace p475 := eq_true p475
           replace q475 := eq_true q475
           have p476 : 0 ≤ (x8_1 : Int) := of_decide_eq_true (by first | (with_reducible assumption) | assumption)
           have q476 : x8_1 < (l0.length : Int) := of_decide_eq_true (by first | (with_reducible assumption) | assumption)
           obtain ⟨ad476, e476, hx476_0⟩ := Kd.at_int HR0.out x8_1 p476 q476
           obtain rfl : ad469 = ad476 := (by injection e476)
           replace p476 := eq_true p476
           replace q476 := eq_true q476
           go_wp2
           go_roundg k1
           case measure => have := HK1.out; omega
           case rel => exact ⟨(Go.bits .or .i32 (wrap32 (x2_1 * 64)) (wrap32 (Go.bits .and .u8 (rd l0 x8_1) 63))), (128), (191), (wrap64 (x8_1 + 1)), (by first | rfl | (simp; done) | (simp [*]; done)), (by first | rfl | (simp; done) | (simp [*]; done)), (by first | rfl | (simp; done) | (simp [*]; done)), (by first | rfl | (simp; done) | (simp [*]; done)), H', ⟨by have := HK1.out; omega⟩, by repeat (first | exact Drawn0.refl _ | apply Drawn0.step)⟩
        ·rw [if_neg c8] at H
         exact absurd H (by simp)
       ·rw [if_neg c7] at H
        exact absurd H (by simp)
     ·rw [if_neg c5] at H
      have c5b0 : decide (x8_1 < t470) = false := decide_eq_false c5
      clear c5
      simp only [Option.some.injEq, Prod.mk.injEq] at H
      obtain ⟨rfl, rfl, rfl⟩ := H
      go_wp2
      go_ret3
      exact ⟨by first | rfl | (simp; done) | (simp [*]; done), by repeat (first | exact Drawn0.refl _ | apply Drawn0.step)⟩
 ·rw [if_neg c2] at H
  exact absurd H (by simp)
end Go.Proofs.YtiggjbclbdikmaaDoor.X
namespace Go.Proofs.YtiggjbclbdikmaaDoor.X
open Go.RowKit Go.Proofs.YtiggjbclbdikmaaDoorW.PrintWords Go.Proofs.YtiggjbclbdikmaaDoorW.PrintLast Go.Proofs.YtiggjbclbdikmaaDoorW.PrintMore
attribute [local go_sem] max2_int min2_int max_two min_two max_three min_three max_four min_four   
set_option linter.unusedVariables false
set_option linter.unusedSimpArgs false
mutual
def tremaref01_row.j0 : Nat → Int → Bool → Option (List Int × Bool)
 | 0, _, _ => none
 | k + 1, x0, x7 => if x7 = true then (some ((([128, 191] : List Int)), true)) else (if x0 = 224 then (some ((([160, 191, 128, 191] : List Int)), true)) else (if x0 = 237 then (some ((([128, 159, 128, 191] : List Int)), true)) else (if x0 ≥ 225 then (tremaref01_row.j1 k x0 (decide (x0 ≤ 239))) else (tremaref01_row.j1 k x0 false))))
def tremaref01_row.j1 : Nat → Int → Bool → Option (List Int × Bool)
 | 0, _, _ => none
 | k + 1, x0, x23 => if x23 = true then (some ((([128, 191, 128, 191] : List Int)), true)) else (if x0 = 240 then (some ((([144, 191, 128, 191, 128, 191] : List Int)), true)) else (if x0 ≥ 241 then (tremaref01_row.j2 k x0 (decide (x0 ≤ 243))) else (tremaref01_row.j2 k x0 false)))
def tremaref01_row.j2 : Nat → Int → Bool → Option (List Int × Bool)
 | 0, _, _ => none
 | k + 1, x0, x35 => if x35 = true then (some ((([128, 191, 128, 191, 128, 191] : List Int)), true)) else (if x0 = 244 then (some ((([128, 143, 128, 191, 128, 191] : List Int)), true)) else (some (([] : List Int), false)))
end
def tremaref01_row.f (k : Nat) (a0 : Int) : Option (List Int × Bool) := if a0 ≤ 127 then (some (([] : List Int), true)) else (if a0 ≥ 194 then (tremaref01_row.j0 k a0 (decide (a0 ≤ 223))) else (tremaref01_row.j0 k a0 false))
theorem tremaref01_row.mono_l : ∀ k, (∀ y0 y1, LeO (tremaref01_row.j0 k y0 y1) (tremaref01_row.j0 (k + 1) y0 y1)) ∧ (∀ y0 y1, LeO (tremaref01_row.j1 k y0 y1) (tremaref01_row.j1 (k + 1) y0 y1)) ∧ (∀ y0 y1, LeO (tremaref01_row.j2 k y0 y1) (tremaref01_row.j2 (k + 1) y0 y1))
 | 0 => ⟨fun _ _ r h => by simp [tremaref01_row.j0] at h, fun _ _ r h => by simp [tremaref01_row.j1] at h, fun _ _ r h => by simp [tremaref01_row.j2] at h⟩
 | k + 1 => by
  obtain ⟨ih0, ih1, ih2⟩ := tremaref01_row.mono_l k
  refine ⟨?_, ?_, ?_⟩
  ·intro y0 y1
   unfold tremaref01_row.j0
   repeat' first
   | (with_reducible exact ih0 _ _)
   | (with_reducible exact ih1 _ _)
   | (with_reducible exact ih2 _ _)
   | (with_reducible exact LeO.refl _)
   | (with_reducible exact LeO.none _)
   | (with_reducible refine LeO.ite ?_ ?_)
   | (with_reducible refine LeO.bind ?_ (fun _ => ?_))
   | exact ih0 _ _
   | exact ih1 _ _
   | exact ih2 _ _
   | exact LeO.none _
   | refine LeO.ite ?_ ?_
   | refine LeO.bind ?_ (fun _ => ?_)
  ·intro y0 y1
   unfold tremaref01_row.j1
   repeat' first
   | (with_reducible exact ih0 _ _)
   | (with_reducible exact ih1 _ _)
   | (with_reducible exact ih2 _ _)
   | (with_reducible exact LeO.refl _)
   | (with_reducible exact LeO.none _)
   | (with_reducible refine LeO.ite ?_ ?_)
   | (with_reducible refine LeO.bind ?_ (fun _ => ?_))
   | exact ih0 _ _
   | exact ih1 _ _
   | exact ih2 _ _
   | exact LeO.none _
   | refine LeO.ite ?_ ?_
   | refine LeO.bind ?_ (fun _ => ?_)
  ·intro y0 y1
   unfold tremaref01_row.j2
   repeat' first
   | (with_reducible exact ih0 _ _)
   | (with_reducible exact ih1 _ _)
   | (with_reducible exact ih2 _ _)
   | (with_reducible exact LeO.refl _)
   | (with_reducible exact LeO.none _)
   | (with_reducible refine LeO.ite ?_ ?_)
   | (with_reducible refine LeO.bind ?_ (fun _ => ?_))
   | exact ih0 _ _
   | exact ih1 _ _
   | exact ih2 _ _
   | exact LeO.none _
   | refine LeO.ite ?_ ?_
   | refine LeO.bind ?_ (fun _ => ?_)
theorem tremaref01_row.mono : ∀ a0 k, LeO (tremaref01_row.f k a0) (tremaref01_row.f (k + 1) a0) := by
 intro a0 k
 obtain ⟨ih0, ih1, ih2⟩ := tremaref01_row.mono_l k
 unfold tremaref01_row.f
 repeat' first
   | (with_reducible exact ih0 _ _)
   | (with_reducible exact ih1 _ _)
   | (with_reducible exact ih2 _ _)
   | (with_reducible exact LeO.refl _)
   | (with_reducible exact LeO.none _)
   | (with_reducible refine LeO.ite ?_ ?_)
   | (with_reducible refine LeO.bind ?_ (fun _ => ?_))
   | exact ih0 _ _
   | exact ih1 _ _
   | exact ih2 _ _
   | exact LeO.none _
   | refine LeO.ite ?_ ?_
   | refine LeO.bind ?_ (fun _ => ?_)
set_option maxHeartbeats 8000000 in
set_option maxRecDepth 100000 in
theorem tremaref01_row.calls (k : Nat) (a0 : Int) (r1 : List Int) (r2 : Bool) (w : World) (h : tremaref01_row.f k a0 = some (r1, r2)) :
  Calls Tryd.prog 93 #[.int .u8 a0] w fun e w' => ∃ v0_ : Value, e = .returned (.tuple #[v0_, .bool r2]) ∧ Kd.R (Kd.int .u8) 5 w' w.heap.size (fun _ => True) v0_ r1 ∧ Below w.heap.size w w' := by
 have HB := Aside0.mk (Below.refl w.heap.size w)
 have H : (if a0 ≤ 127 then (some (([] : List Int), true)) else (if a0 ≥ 194 then (tremaref01_row.j0 k a0 (decide (a0 ≤ 223))) else (tremaref01_row.j0 k a0 false))) = some (r1, r2) := h
 clear h
 by_cases c2 : a0 ≤ 127
 ·rw [if_pos c2] at H
  have c2b0 : decide (a0 ≤ 127) = true := decide_eq_true c2
  clear c2
  simp only [Option.some.injEq, Prod.mk.injEq] at H
  obtain ⟨rfl, rfl⟩ := H
  go_enter Tryd.func93, Tryd.ntmps93
  go_wp2
  go_ret2
  exact ⟨_, by first | rfl | (simp [errW_none, errW_some] <;> rfl) | (simp [*, errW_none, errW_some] <;> rfl), by first | exact Kd.R_nil _ _ _ _ _ | exact Kd.N_nil _ _ _ _ _ | exact Kd.V_nil _ _ _ _ _ | exact Kd.Q_nil _ _ _ _ _ | exact Kd.S_nil _ _ _ _ _, by repeat (first | (with_reducible first | exact HB.out | apply below_alloc | apply pw_below_drewN | apply below_drew1) | exact HB.out)⟩
 ·rw [if_neg c2] at H
  have c2b0 : decide (a0 ≤ 127) = false := decide_eq_false c2
  clear c2
  have HC3 := Aside0.mk H
  clear H
  go_enter Tryd.func93, Tryd.ntmps93
  go_upto_region 3 with (fail)
  go_cut [7] (fun v7 wc => ∃ (kq : Nat) (x7_2 : Bool), v7 = .bool x7_2 ∧ Aside0 (tremaref01_row.j0 kq a0 x7_2 = some (r1, r2)) ∧ Aside0 (kq ≤ k) ∧ Aside0 (Below w.heap.size w wc))
  case first =>
   have H := HC3.out
   clear HC3
   by_cases c4 : a0 ≥ 194
   ·rw [if_pos c4] at H
    have c4b0 : decide (194 ≤ a0) = true := decide_eq_true c4
    clear c4
    (first | rw [c4b0] | (simp only [i64_w, i32_w]; rw [c4b0]) | skip)
    have H' := Aside0.mk H
    clear H
    go_wp2
    go_meet
    case rel => exact ⟨_, (decide (a0 ≤ 223)), (by first | rfl | (simp; done) | (simp [*]; done)), H', ⟨by first | omega | exact Nat.le_refl _⟩, ⟨by repeat (first | (with_reducible first | exact HB.out | apply below_alloc | apply pw_below_drewN | apply below_drew1) | exact HB.out)⟩⟩
   ·rw [if_neg c4] at H
    have c4b0 : decide (194 ≤ a0) = false := decide_eq_false c4
    clear c4
    (first | rw [c4b0] | (simp only [i64_w, i32_w]; rw [c4b0]) | skip)
    have H' := Aside0.mk H
    clear H
    go_wp2
    go_meet
    case rel => exact ⟨_, (false), (by first | rfl | (simp; done) | (simp [*]; done)), H', ⟨by first | omega | exact Nat.le_refl _⟩, ⟨by repeat (first | (with_reducible first | exact HB.out | apply below_alloc | apply pw_below_drewN | apply below_drew1) | exact HB.out)⟩⟩
  case rest =>
   clear HC3
   try clear c2
   try clear c2b0
   try clear p2
   try clear c4
   try clear c4b0
   obtain ⟨kq, x7_2, rfl, HA, HJ2, HB⟩ := hcut
   cases kq with
   | zero => exact absurd HA.out (by simp [tremaref01_row.j0])
   | succ kj2 =>
    have H := HA.out
    clear HA
    simp only [tremaref01_row.j0] at H
    by_cases c5 : x7_2 = true
    ·subst c5
     have H1 : (some ((([128, 191] : List Int)), true)) = some (r1, r2) := by rw [if_pos rfl] at H; exact H
     clear H
     have H := H1
     clear H1
     obtain ⟨y234, hy234⟩ : ∃ y_ : List Int, y_ = (([128, 191] : List Int)) := ⟨_, rfl⟩
     replace H : (some (y234, true)) = some (r1, r2) := by first | (rw [hy234]; with_reducible exact H) | (have H2_ := (Option.bind_some _ _).symm.trans H; rw [hy234]; with_reducible exact H2_) | (have H2_ := (Option.bind_some _ _).symm.trans H; with_reducible exact H2_) | with_reducible exact H | (rw [hy234]; exact H) | exact H
     have Ny234 := Aside0.mk hy234
     clear hy234
     simp only [Option.some.injEq, Prod.mk.injEq] at H
     obtain ⟨rfl, rfl⟩ := H
     go_wp2_with (first | ((with_reducible refine gate_dst (N := 14) rfl ?_); refine Kd.R_lit (Kd.int .u8) _ 5 ?hg (N := 14) ?hd (xs := ([128, 191] : List Int)) (inner := [.int .u8 128, .int .u8 191]) (ok := fun _ => True) (okp := fun _ => True) ?hr ?hp (fun _ hk => hk) trivial (Below.refl _ _) (Nat.le_refl _) (by simp) ?_; (case hd => rfl); (case hg => rfl); (case hr => first | (go_simp; done) | (go_simp; rfl)); (case hp => exact (Reps.one (show Kd.M (Kd.int .u8) _ _ _ 128 [.int .u8 128] from rfl) (Reps.one (show Kd.M (Kd.int .u8) _ _ _ 191 [.int .u8 191] from rfl) (Reps.none _ _)))); intro v235 w6 ho7 hb hg_ hnew_; clear hg_ hnew_; (first | rw [← Ny234.out] at ho7 | (simp only [Int.reduceToNat] at ho7; rw [← Ny234.out] at ho7)); have n0_ := Aside0.mk (Kd.R_lower ho7 (below_size (by repeat (first | (with_reducible first | exact HB.out | apply below_alloc | apply pw_below_drewN | apply below_drew1) | exact HB.out)))); have n1_ := Aside0.mk (below_step (by repeat (first | (with_reducible first | exact HB.out | apply below_alloc | apply pw_below_drewN | apply below_drew1) | exact HB.out)) hb); clear HB; have HO236 := n0_; have HB := n1_; clear n0_ n1_; clear hb ho7))
     go_ret2
     exact ⟨_, by first | rfl | (simp [errW_none, errW_some] <;> rfl) | (simp [*, errW_none, errW_some] <;> rfl), by (with_reducible repeat (first | apply Kd.R_alloc | apply Kd.R_drewN | apply Kd.R_drew)); exact HO236.out, by repeat (first | (with_reducible first | exact HB.out | apply below_alloc | apply pw_below_drewN | apply below_drew1) | exact HB.out)⟩
    ·replace c5 := Bool.eq_false_iff.mpr c5
     subst c5
     have H1 : (if a0 = 224 then (some ((([160, 191, 128, 191] : List Int)), true)) else (if a0 = 237 then (some ((([128, 159, 128, 191] : List Int)), true)) else (if a0 ≥ 225 then (tremaref01_row.j1 kj2 a0 (decide (a0 ≤ 239))) else (tremaref01_row.j1 kj2 a0 false)))) = some (r1, r2) := by rw [if_neg (show ¬ (false = true) by decide)] at H; exact H
     clear H
     have H := H1
     clear H1
     by_cases c8 : a0 = 224
     ·rw [if_pos c8] at H
      have c8b0 : (a0 == 224) = true := beq_iff_eq.mpr c8
      have c8b1 : (a0 != 224) = false := bne_eq_false_iff_eq.mpr c8
      clear c8
      obtain ⟨y237, hy237⟩ : ∃ y_ : List Int, y_ = (([160, 191, 128, 191] : List Int)) := ⟨_, rfl⟩
      replace H : (some (y237, true)) = some (r1, r2) := by first | (rw [hy237]; with_reducible exact H) | (have H2_ := (Option.bind_some _ _).symm.trans H; rw [hy237]; with_reducible exact H2_) | (have H2_ := (Option.bind_some _ _).symm.trans H; with_reducible exact H2_) | with_reducible exact H | (rw [hy237]; exact H) | exact H
      have Ny237 := Aside0.mk hy237
      clear hy237
      simp only [Option.some.injEq, Prod.mk.injEq] at H
      obtain ⟨rfl, rfl⟩ := H
      go_wp2_with (first | ((with_reducible refine gate_dst (N := 18) rfl ?_); refine Kd.R_lit (Kd.int .u8) _ 5 ?hg (N := 18) ?hd (xs := ([160, 191, 128, 191] : List Int)) (inner := [.int .u8 160, .int .u8 191, .int .u8 128, .int .u8 191]) (ok := fun _ => True) (okp := fun _ => True) ?hr ?hp (fun _ hk => hk) trivial (Below.refl _ _) (Nat.le_refl _) (by simp) ?_; (case hd => rfl); (case hg => rfl); (case hr => first | (go_simp; done) | (go_simp; rfl)); (case hp => exact (Reps.one (show Kd.M (Kd.int .u8) _ _ _ 160 [.int .u8 160] from rfl) (Reps.one (show Kd.M (Kd.int .u8) _ _ _ 191 [.int .u8 191] from rfl) (Reps.one (show Kd.M (Kd.int .u8) _ _ _ 128 [.int .u8 128] from rfl) (Reps.one (show Kd.M (Kd.int .u8) _ _ _ 191 [.int .u8 191] from rfl) (Reps.none _ _)))))); intro v238 w9 ho10 hb hg_ hnew_; clear hg_ hnew_; (first | rw [← Ny237.out] at ho10 | (simp only [Int.reduceToNat] at ho10; rw [← Ny237.out] at ho10)); have n0_ := Aside0.mk (Kd.R_lower ho10 (below_size (by repeat (first | (with_reducible first | exact HB.out | apply below_alloc | apply pw_below_drewN | apply below_drew1) | exact HB.out)))); have n1_ := Aside0.mk (below_step (by repeat (first | (with_reducible first | exact HB.out | apply below_alloc | apply pw_below_drewN | apply below_drew1) | exact HB.out)) hb); clear HB; have HO239 := n0_; have HB := n1_; clear n0_ n1_; clear hb ho10))
      go_ret2
      exact ⟨_, by first | rfl | (simp [errW_none, errW_some] <;> rfl) | (simp [*, errW_none, errW_some] <;> rfl), by (with_reducible repeat (first | apply Kd.R_alloc | apply Kd.R_drewN | apply Kd.R_drew)); exact HO239.out, by repeat (first | (with_reducible first | exact HB.out | apply below_alloc | apply pw_below_drewN | apply below_drew1) | exact HB.out)⟩
     ·rw [if_neg c8] at H
      have c8b0 : (a0 == 224) = false := beq_eq_false_iff_ne.mpr c8
      have c8b1 : (a0 != 224) = true := bne_iff_ne.mpr c8
      by_cases c11 : a0 = 237
      ·rw [if_pos c11] at H
       have c11b0 : (a0 == 237) = true := beq_iff_eq.mpr c11
       have c11b1 : (a0 != 237) = false := bne_eq_false_iff_eq.mpr c11
       clear c11
       obtain ⟨y240, hy240⟩ : ∃ y_ : List Int, y_ = (([128, 159, 128, 191] : List Int)) := ⟨_, rfl⟩
       replace H : (some (y240, true)) = some (r1, r2) := by first | (rw [hy240]; with_reducible exact H) | (have H2_ := (Option.bind_some _ _).symm.trans H; rw [hy240]; with_reducible exact H2_) | (have H2_ := (Option.bind_some _ _).symm.trans H; with_reducible exact H2_) | with_reducible exact H | (rw [hy240]; exact H) | exact H
       have Ny240 := Aside0.mk hy240
       clear hy240
       simp only [Option.some.injEq, Prod.mk.injEq] at H
       obtain ⟨rfl, rfl⟩ := H
       go_wp2_with (first | ((with_reducible refine gate_dst (N := 22) rfl ?_); refine Kd.R_lit (Kd.int .u8) _ 5 ?hg (N := 22) ?hd (xs := ([128, 159, 128, 191] : List Int)) (inner := [.int .u8 128, .int .u8 159, .int .u8 128, .int .u8 191]) (ok := fun _ => True) (okp := fun _ => True) ?hr ?hp (fun _ hk => hk) trivial (Below.refl _ _) (Nat.le_refl _) (by simp) ?_; (case hd => rfl); (case hg => rfl); (case hr => first | (go_simp; done) | (go_simp; rfl)); (case hp => exact (Reps.one (show Kd.M (Kd.int .u8) _ _ _ 128 [.int .u8 128] from rfl) (Reps.one (show Kd.M (Kd.int .u8) _ _ _ 159 [.int .u8 159] from rfl) (Reps.one (show Kd.M (Kd.int .u8) _ _ _ 128 [.int .u8 128] from rfl) (Reps.one (show Kd.M (Kd.int .u8) _ _ _ 191 [.int .u8 191] from rfl) (Reps.none _ _)))))); intro v241 w12 ho13 hb hg_ hnew_; clear hg_ hnew_; (first | rw [← Ny240.out] at ho13 | (simp only [Int.reduceToNat] at ho13; rw [← Ny240.out] at ho13)); have n0_ := Aside0.mk (Kd.R_lower ho13 (below_size (by repeat (first | (with_reducible first | exact HB.out | apply below_alloc | apply pw_below_drewN | apply below_drew1) | exact HB.out)))); have n1_ := Aside0.mk (below_step (by repeat (first | (with_reducible first | exact HB.out | apply below_alloc | apply pw_below_drewN | apply below_drew1) | exact HB.out)) hb); clear HB; have HO242 := n0_; have HB := n1_; clear n0_ n1_; clear hb ho13))
       go_ret2
       exact ⟨_, by first | rfl | (simp [errW_none, errW_some] <;> rfl) | (simp [*, errW_none, errW_some] <;> rfl), by (with_reducible repeat (first | apply Kd.R_alloc | apply Kd.R_drewN | apply Kd.R_drew)); exact HO242.out, by repeat (first | (with_reducible first | exact HB.out | apply below_alloc | apply pw_below_drewN | apply below_drew1) | exact HB.out)⟩
      ·rw [if_neg c11] at H
       have c11b0 : (a0 == 237) = false := beq_eq_false_iff_ne.mpr c11
       have c11b1 : (a0 != 237) = true := bne_iff_ne.mpr c11
       have HC14 := Aside0.mk H
       clear H
       go_upto_region 9 with (fail)
       go_cut [23] (fun v23 wc => ∃ (kq : Nat) (x23_13 : Bool), v23 = .bool x23_13 ∧ Aside0 (tremaref01_row.j1 kq a0 x23_13 = some (r1, r2)) ∧ Aside0 (kq ≤ kj2) ∧ Aside0 (Below w.heap.size w wc))
       case first =>
        have H := HC14.out
        clear HC14
        by_cases c15 : a0 ≥ 225
        ·rw [if_pos c15] at H
         have c15b0 : decide (225 ≤ a0) = true := decide_eq_true c15
         clear c15
         (first | rw [c15b0] | (simp only [i64_w, i32_w]; rw [c15b0]) | skip)
         have H' := Aside0.mk H
         clear H
         go_wp2
         go_meet
         case rel => exact ⟨_, (decide (a0 ≤ 239)), (by first | rfl | (simp; done) | (simp [*]; done)), H', ⟨by have := HJ2.out; first | omega | exact Nat.le_refl _⟩, ⟨by repeat (first | (with_reducible first | exact HB.out | apply below_alloc | apply pw_below_drewN | apply below_drew1) | exact HB.out)⟩⟩
        ·rw [if_neg c15] at H
         have c15b0 : decide (225 ≤ a0) = false := decide_eq_false c15
         clear c15
         (first | rw [c15b0] | (simp only [i64_w, i32_w]; rw [c15b0]) | skip)
         have H' := Aside0.mk H
         clear H
         go_wp2
         go_meet
         case rel => exact ⟨_, (false), (by first | rfl | (simp; done) | (simp [*]; done)), H', ⟨by have := HJ2.out; first | omega | exact Nat.le_refl _⟩, ⟨by repeat (first | (with_reducible first | exact HB.out | apply below_alloc | apply pw_below_drewN | apply below_drew1) | exact HB.out)⟩⟩
       case rest =>
        clear HC14
        try clear c1
        try clear c2
        try clear c2b0
        try clear p2
        try clear c4
        try clear c4b0
        try clear c5
        try clear c8
        try clear c8b0
        try clear c8b1
        try clear c9
        try clear c11
        try clear c11b0
        try clear c11b1
        try clear c15
        try clear c15b0
        try clear p2
        obtain ⟨kq, x23_13, rfl, HA, HJ13, HB⟩ := hcut
        cases kq with
        | zero => exact absurd HA.out (by simp [tremaref01_row.j1])
        | succ kj13 =>
         have H := HA.out
         clear HA
         simp only [tremaref01_row.j1] at H
         by_cases c16 : x23_13 = true
         ·subst c16
          have H1 : (some ((([128, 191, 128, 191] : List Int)), true)) = some (r1, r2) := by rw [if_pos rfl] at H; exact H
          clear H
          have H := H1
          clear H1
          obtain ⟨y243, hy243⟩ : ∃ y_ : List Int, y_ = (([128, 191, 128, 191] : List Int)) := ⟨_, rfl⟩
          replace H : (some (y243, true)) = some (r1, r2) := by first | (rw [hy243]; with_reducible exact H) | (have H2_ := (Option.bind_some _ _).symm.trans H; rw [hy243]; with_reducible exact H2_) | (have H2_ := (Option.bind_some _ _).symm.trans H; with_reducible exact H2_) | with_reducible exact H | (rw [hy243]; exact H) | exact H
          have Ny243 := Aside0.mk hy243
          clear hy243
          simp only [Option.some.injEq, Prod.mk.injEq] at H
          obtain ⟨rfl, rfl⟩ := H
          go_wp2_with (first | ((with_reducible refine gate_dst (N := 30) rfl ?_); refine Kd.R_lit (Kd.int .u8) _ 5 ?hg (N := 30) ?hd (xs := ([128, 191, 128, 191] : List Int)) (inner := [.int .u8 128, .int .u8 191, .int .u8 128, .int .u8 191]) (ok := fun _ => True) (okp := fun _ => True) ?hr ?hp (fun _ hk => hk) trivial (Below.refl _ _) (Nat.le_refl _) (by simp) ?_; (case hd => rfl); (case hg => rfl); (case hr => first | (go_simp; done) | (go_simp; rfl)); (case hp => exact (Reps.one (show Kd.M (Kd.int .u8) _ _ _ 128 [.int .u8 128] from rfl) (Reps.one (show Kd.M (Kd.int .u8) _ _ _ 191 [.int .u8 191] from rfl) (Reps.one (show Kd.M (Kd.int .u8) _ _ _ 128 [.int .u8 128] from rfl) (Reps.one (show Kd.M (Kd.int .u8) _ _ _ 191 [.int .u8 191] from rfl) (Reps.none _ _)))))); intro v244 w17 ho18 hb hg_ hnew_; clear hg_ hnew_; (first | rw [← Ny243.out] at ho18 | (simp only [Int.reduceToNat] at ho18; rw [← Ny243.out] at ho18)); have n0_ := Aside0.mk (Kd.R_lower ho18 (below_size (by repeat (first | (with_reducible first | exact HB.out | apply below_alloc | apply pw_below_drewN | apply below_drew1) | exact HB.out)))); have n1_ := Aside0.mk (below_step (by repeat (first | (with_reducible first | exact HB.out | apply below_alloc | apply pw_below_drewN | apply below_drew1) | exact HB.out)) hb); clear HB; have HO245 := n0_; have HB := n1_; clear n0_ n1_; clear hb ho18))
          go_ret2
          exact ⟨_, by first | rfl | (simp [errW_none, errW_some] <;> rfl) | (simp [*, errW_none, errW_some] <;> rfl), by (with_reducible repeat (first | apply Kd.R_alloc | apply Kd.R_drewN | apply Kd.R_drew)); exact HO245.out, by repeat (first | (with_reducible first | exact HB.out | apply below_alloc | apply pw_below_drewN | apply below_drew1) | exact HB.out)⟩
         ·replace c16 := Bool.eq_false_iff.mpr c16
          subst c16
          have H1 : (if a0 = 240 then (some ((([144, 191, 128, 191, 128, 191] : List Int)), true)) else (if a0 ≥ 241 then (tremaref01_row.j2 kj13 a0 (decide (a0 ≤ 243))) else (tremaref01_row.j2 kj13 a0 false))) = some (r1, r2) := by rw [if_neg (show ¬ (false = true) by decide)] at H; exact H
          clear H
          have H := H1
          clear H1
          by_cases c19 : a0 = 240
          ·rw [if_pos c19] at H
           have c19b0 : (a0 == 240) = true := beq_iff_eq.mpr c19
           have c19b1 : (a0 != 240) = false := bne_eq_false_iff_eq.mpr c19
           clear c19
           obtain ⟨y246, hy246⟩ : ∃ y_ : List Int, y_ = (([144, 191, 128, 191, 128, 191] : List Int)) := ⟨_, rfl⟩
           replace H : (some (y246, true)) = some (r1, r2) := by first | (rw [hy246]; with_reducible exact H) | (have H2_ := (Option.bind_some _ _).symm.trans H; rw [hy246]; with_reducible exact H2_) | (have H2_ := (Option.bind_some _ _).symm.trans H; with_reducible exact H2_) | with_reducible exact H | (rw [hy246]; exact H) | exact H
           have Ny246 := Aside0.mk hy246
           clear hy246
           simp only [Option.some.injEq, Prod.mk.injEq] at H
           obtain ⟨rfl, rfl⟩ := H
           go_wp2_with (first | ((with_reducible refine gate_dst (N := 34) rfl ?_); refine Kd.R_lit (Kd.int .u8) _ 5 ?hg (N := 34) ?hd (xs := ([144, 191, 128, 191, 128, 191] : List Int)) (inner := [.int .u8 144, .int .u8 191, .int .u8 128, .int .u8 191, .int .u8 128, .int .u8 191]) (ok := fun _ => True) (okp := fun _ => True) ?hr ?hp (fun _ hk => hk) trivial (Below.refl _ _) (Nat.le_refl _) (by simp) ?_; (case hd => rfl); (case hg => rfl); (case hr => first | (go_simp; done) | (go_simp; rfl)); (case hp => exact (Reps.one (show Kd.M (Kd.int .u8) _ _ _ 144 [.int .u8 144] from rfl) (Reps.one (show Kd.M (Kd.int .u8) _ _ _ 191 [.int .u8 191] from rfl) (Reps.one (show Kd.M (Kd.int .u8) _ _ _ 128 [.int .u8 128] from rfl) (Reps.one (show Kd.M (Kd.int .u8) _ _ _ 191 [.int .u8 191] from rfl) (Reps.one (show Kd.M (Kd.int .u8) _ _ _ 128 [.int .u8 128] from rfl) (Reps.one (show Kd.M (Kd.int .u8) _ _ _ 191 [.int .u8 191] from rfl) (Reps.none _ _)))))))); intro v247 w20 ho21 hb hg_ hnew_; clear hg_ hnew_; (first | rw [← Ny246.out] at ho21 | (simp only [Int.reduceToNat] at ho21; rw [← Ny246.out] at ho21)); have n0_ := Aside0.mk (Kd.R_lower ho21 (below_size (by repeat (first | (with_reducible first | exact HB.out | apply below_alloc | apply pw_below_drewN | apply below_drew1) | exact HB.out)))); have n1_ := Aside0.mk (below_step (by repeat (first | (with_reducible first | exact HB.out | apply below_alloc | apply pw_below_drewN | apply below_drew1) | exact HB.out)) hb); clear HB; have HO248 := n0_; have HB := n1_; clear n0_ n1_; clear hb ho21))
           go_ret2
           exact ⟨_, by first | rfl | (simp [errW_none, errW_some] <;> rfl) | (simp [*, errW_none, errW_some] <;> rfl), by (with_reducible repeat (first | apply Kd.R_alloc | apply Kd.R_drewN | apply Kd.R_drew)); exact HO248.out, by repeat (first | (with_reducible first | exact HB.out | apply below_alloc | apply pw_below_drewN | apply below_drew1) | exact HB.out)⟩
          ·rw [if_neg c19] at H
           have c19b0 : (a0 == 240) = false := beq_eq_false_iff_ne.mpr c19
           have c19b1 : (a0 != 240) = true := bne_iff_ne.mpr c19
           have HC22 := Aside0.mk H
           clear H
           go_upto_region 13 with (fail)
           go_cut [35] (fun v35 wc => ∃ (kq : Nat) (x35_21 : Bool), v35 = .bool x35_21 ∧ Aside0 (tremaref01_row.j2 kq a0 x35_21 = some (r1, r2)) ∧ Aside0 (kq ≤ kj13) ∧ Aside0 (Below w.heap.size w wc))
           case first =>
            have H := HC22.out
            clear HC22
            by_cases c23 : a0 ≥ 241
            ·rw [if_pos c23] at H
             have c23b0 : decide (241 ≤ a0) = true := decide_eq_true c23
             clear c23
             (first | rw [c23b0] | (simp only [i64_w, i32_w]; rw [c23b0]) | skip)
             have H' := Aside0.mk H
             clear H
             go_wp2
             go_meet
             case rel => exact ⟨_, (decide (a0 ≤ 243)), (by first | rfl | (simp; done) | (simp [*]; done)), H', ⟨by have := HJ2.out; have := HJ13.out; first | omega | exact Nat.le_refl _⟩, ⟨by repeat (first | (with_reducible first | exact HB.out | apply below_alloc | apply pw_below_drewN | apply below_drew1) | exact HB.out)⟩⟩
            ·rw [if_neg c23] at H
             have c23b0 : decide (241 ≤ a0) = false := decide_eq_false c23
             clear c23
             (first | rw [c23b0] | (simp only [i64_w, i32_w]; rw [c23b0]) | skip)
             have H' := Aside0.mk H
             clear H
             go_wp2
             go_meet
             case rel => exact ⟨_, (false), (by first | rfl | (simp; done) | (simp [*]; done)), H', ⟨by have := HJ2.out; have := HJ13.out; first | omega | exact Nat.le_refl _⟩, ⟨by repeat (first | (with_reducible first | exact HB.out | apply below_alloc | apply pw_below_drewN | apply below_drew1) | exact HB.out)⟩⟩
           case rest =>
            clear HC22
            try clear c1
            try clear c2
            try clear c2b0
            try clear p2
            try clear c4
            try clear c4b0
            try clear c5
            try clear c8
            try clear c8b0
            try clear c8b1
            try clear c9
            try clear c11
            try clear c11b0
            try clear c11b1
            try clear c15
            try clear c15b0
            try clear c16
            try clear c19
            try clear c19b0
            try clear c19b1
            try clear c23
            try clear c23b0
            try clear p2
            obtain ⟨kq, x35_21, rfl, HA, HJ21, HB⟩ := hcut
            cases kq with
            | zero => exact absurd HA.out (by simp [tremaref01_row.j2])
            | succ kj21 =>
             have H := HA.out
             clear HA
             simp only [tremaref01_row.j2] at H
             by_cases c24 : x35_21 = true
             ·subst c24
              have H1 : (some ((([128, 191, 128, 191, 128, 191] : List Int)), true)) = some (r1, r2) := by rw [if_pos rfl] at H; exact H
              clear H
              have H := H1
              clear H1
              obtain ⟨y249, hy249⟩ : ∃ y_ : List Int, y_ = (([128, 191, 128, 191, 128, 191] : List Int)) := ⟨_, rfl⟩
              replace H : (some (y249, true)) = some (r1, r2) := by first | (rw [hy249]; with_reducible exact H) | (have H2_ := (Option.bind_some _ _).symm.trans H; rw [hy249]; with_reducible exact H2_) | (have H2_ := (Option.bind_some _ _).symm.trans H; with_reducible exact H2_) | with_reducible exact H | (rw [hy249]; exact H) | exact H
              have Ny249 := Aside0.mk hy249
              clear hy249
              simp only [Option.some.injEq, Prod.mk.injEq] at H
              obtain ⟨rfl, rfl⟩ := H
              go_wp2_with (first | ((with_reducible refine gate_dst (N := 42) rfl ?_); refine Kd.R_lit (Kd.int .u8) _ 5 ?hg (N := 42) ?hd (xs := ([128, 191, 128, 191, 128, 191] : List Int)) (inner := [.int .u8 128, .int .u8 191, .int .u8 128, .int .u8 191, .int .u8 128, .int .u8 191]) (ok := fun _ => True) (okp := fun _ => True) ?hr ?hp (fun _ hk => hk) trivial (Below.refl _ _) (Nat.le_refl _) (by simp) ?_; (case hd => rfl); (case hg => rfl); (case hr => first | (go_simp; done) | (go_simp; rfl)); (case hp => exact (Reps.one (show Kd.M (Kd.int .u8) _ _ _ 128 [.int .u8 128] from rfl) (Reps.one (show Kd.M (Kd.int .u8) _ _ _ 191 [.int .u8 191] from rfl) (Reps.one (show Kd.M (Kd.int .u8) _ _ _ 128 [.int .u8 128] from rfl) (Reps.one (show Kd.M (Kd.int .u8) _ _ _ 191 [.int .u8 191] from rfl) (Reps.one (show Kd.M (Kd.int .u8) _ _ _ 128 [.int .u8 128] from rfl) (Reps.one (show Kd.M (Kd.int .u8) _ _ _ 191 [.int .u8 191] from rfl) (Reps.none _ _)))))))); intro v250 w25 ho26 hb hg_ hnew_; clear hg_ hnew_; (first | rw [← Ny249.out] at ho26 | (simp only [Int.reduceToNat] at ho26; rw [← Ny249.out] at ho26)); have n0_ := Aside0.mk (Kd.R_lower ho26 (below_size (by repeat (first | (with_reducible first | exact HB.out | apply below_alloc | apply pw_below_drewN | apply below_drew1) | exact HB.out)))); have n1_ := Aside0.mk (below_step (by repeat (first | (with_reducible first | exact HB.out | apply below_alloc | apply pw_below_drewN | apply below_drew1) | exact HB.out)) hb); clear HB; have HO251 := n0_; have HB := n1_; clear n0_ n1_; clear hb ho26))
              go_ret2
              exact ⟨_, by first | rfl | (simp [errW_none, errW_some] <;> rfl) | (simp [*, errW_none, errW_some] <;> rfl), by (with_reducible repeat (first | apply Kd.R_alloc | apply Kd.R_drewN | apply Kd.R_drew)); exact HO251.out, by repeat (first | (with_reducible first | exact HB.out | apply below_alloc | apply pw_below_drewN | apply below_drew1) | exact HB.out)⟩
             ·replace c24 := Bool.eq_false_iff.mpr c24
              subst c24
              have H1 : (if a0 = 244 then (some ((([128, 143, 128, 191, 128, 191] : List Int)), true)) else (some (([] : List Int), false))) = some (r1, r2) := by rw [if_neg (show ¬ (false = true) by decide)] at H; exact H
              clear H
              have H := H1
              clear H1
              by_cases c27 : a0 = 244
              ·rw [if_pos c27] at H
               have c27b0 : (a0 == 244) = true := beq_iff_eq.mpr c27
               have c27b1 : (a0 != 244) = false := bne_eq_false_iff_eq.mpr c27
               clear c27
               obtain ⟨y252, hy252⟩ : ∃ y_ : List Int, y_ = (([128, 143, 128, 191, 128, 191] : List Int)) := ⟨_, rfl⟩
               replace H : (some (y252, true)) = some (r1, r2) := by first | (rw [hy252]; with_reducible exact H) | (have H2_ := (Option.bind_some _ _).symm.trans H; rw [hy252]; with_reducible exact H2_) | (have H2_ := (Option.bind_some _ _).symm.trans H; with_reducible exact H2_) | with_reducible exact H | (rw [hy252]; exact H) | exact H
               have Ny252 := Aside0.mk hy252
               clear hy252
               simp only [Option.some.injEq, Prod.mk.injEq] at H
               obtain ⟨rfl, rfl⟩ := H
               go_wp2_with (first | ((with_reducible refine gate_dst (N := 46) rfl ?_); refine Kd.R_lit (Kd.int .u8) _ 5 ?hg (N := 46) ?hd (xs := ([128, 143, 128, 191, 128, 191] : List Int)) (inner := [.int .u8 128, .int .u8 143, .int .u8 128, .int .u8 191, .int .u8 128, .int .u8 191]) (ok := fun _ => True) (okp := fun _ => True) ?hr ?hp (fun _ hk => hk) trivial (Below.refl _ _) (Nat.le_refl _) (by simp) ?_; (case hd => rfl); (case hg => rfl); (case hr => first | (go_simp; done) | (go_simp; rfl)); (case hp => exact (Reps.one (show Kd.M (Kd.int .u8) _ _ _ 128 [.int .u8 128] from rfl) (Reps.one (show Kd.M (Kd.int .u8) _ _ _ 143 [.int .u8 143] from rfl) (Reps.one (show Kd.M (Kd.int .u8) _ _ _ 128 [.int .u8 128] from rfl) (Reps.one (show Kd.M (Kd.int .u8) _ _ _ 191 [.int .u8 191] from rfl) (Reps.one (show Kd.M (Kd.int .u8) _ _ _ 128 [.int .u8 128] from rfl) (Reps.one (show Kd.M (Kd.int .u8) _ _ _ 191 [.int .u8 191] from rfl) (Reps.none _ _)))))))); intro v253 w28 ho29 hb hg_ hnew_; clear hg_ hnew_; (first | rw [← Ny252.out] at ho29 | (simp only [Int.reduceToNat] at ho29; rw [← Ny252.out] at ho29)); have n0_ := Aside0.mk (Kd.R_lower ho29 (below_size (by repeat (first | (with_reducible first | exact HB.out | apply below_alloc | apply pw_below_drewN | apply below_drew1) | exact HB.out)))); have n1_ := Aside0.mk (below_step (by repeat (first | (with_reducible first | exact HB.out | apply below_alloc | apply pw_below_drewN | apply below_drew1) | exact HB.out)) hb); clear HB; have HO254 := n0_; have HB := n1_; clear n0_ n1_; clear hb ho29))
               go_ret2
               exact ⟨_, by first | rfl | (simp [errW_none, errW_some] <;> rfl) | (simp [*, errW_none, errW_some] <;> rfl), by (with_reducible repeat (first | apply Kd.R_alloc | apply Kd.R_drewN | apply Kd.R_drew)); exact HO254.out, by repeat (first | (with_reducible first | exact HB.out | apply below_alloc | apply pw_below_drewN | apply below_drew1) | exact HB.out)⟩
              ·rw [if_neg c27] at H
               have c27b0 : (a0 == 244) = false := beq_eq_false_iff_ne.mpr c27
               have c27b1 : (a0 != 244) = true := bne_iff_ne.mpr c27
               simp only [Option.some.injEq, Prod.mk.injEq] at H
               obtain ⟨rfl, rfl⟩ := H
               go_wp2
               go_ret2
               exact ⟨_, by first | rfl | (simp [errW_none, errW_some] <;> rfl) | (simp [*, errW_none, errW_some] <;> rfl), by first | exact Kd.R_nil _ _ _ _ _ | exact Kd.N_nil _ _ _ _ _ | exact Kd.V_nil _ _ _ _ _ | exact Kd.Q_nil _ _ _ _ _ | exact Kd.S_nil _ _ _ _ _, by repeat (first | (with_reducible first | exact HB.out | apply below_alloc | apply pw_below_drewN | apply below_drew1) | exact HB.out)⟩
end Go.Proofs.YtiggjbclbdikmaaDoor.X
