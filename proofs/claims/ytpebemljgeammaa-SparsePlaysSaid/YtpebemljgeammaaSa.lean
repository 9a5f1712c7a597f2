/-
  SparsePlays: its walk, out of Play's, the reference's and fixed's contracts.
-/
import Derived.Test.YtpebemljgeammaaSf
import Derived.Test.YtpebemljgeammaaPSparsePlaysx1
namespace Go.Proofs.Ytpebemljgeammaa.Sa
set_option linter.unusedVariables false
set_option linter.unusedSimpArgs false
open Go.RowKit Go.Proofs.YtpebemljgeammaaW.PrintWords Go.Proofs.Ytpebemljgeammaa.Hp Go.Proofs.Ytpebemljgeammaa.Sp0 Go.Proofs.Ytpebemljgeammaa.Spint Go.Proofs.Ytpebemljgeammaa.Pl Go.Proofs.Ytpebemljgeammaa.PSparsePlays

theorem stepL_ok {N : Nat} {xs : List Int} {o : Int × Int} (h : (∀ x, x ∈ xs → 0 ≤ x ∧ x < N) ∧ xs.Nodup) : (∀ x, x ∈ (stepL N xs o).2 → 0 ≤ x ∧ x < N) ∧ (stepL N xs o).2.Nodup := by
  unfold stepL
  split
  · simp only [addL]
    split
    · rename_i hc
      refine ⟨fun x hx => ?_, ?_⟩
      · rcases List.mem_append.1 hx with hx | hx
        · exact h.1 x hx
        · rw [List.mem_singleton.1 hx]; exact ⟨hc.1, hc.2.1⟩
      · rw [List.nodup_append]
        exact ⟨h.2, by simp, fun a ha b hb => by rw [List.mem_singleton.1 hb]; rintro rfl; exact hc.2.2 ha⟩
    · exact h
  · split
    · exact h
    · split
      · exact h
      · split
        · exact h
        · split
          · exact ⟨by simp, List.nodup_nil⟩
          · exact h
theorem runK_ok (N : Nat) (ops : List (Int × Int)) : ∀ k, (∀ x, x ∈ (runK N ops k).2 → 0 ≤ x ∧ x < N) ∧ (runK N ops k).2.Nodup
  | 0 => ⟨by simp [runK], List.nodup_nil⟩
  | k + 1 => stepL_ok (runK_ok N ops k)
theorem runK_le (size : Int) (ops : List (Int × Int)) (k : Nat) : (runK (setSize size) ops k).2.length ≤ 65536 := by
  have h := runK_ok (setSize size) ops k
  have := nodup_le _ _ h.1 h.2
  have : setSize size ≤ 65536 := by unfold setSize; omega
  omega

theorem has_pure (l : List Int) (v : Int) (hl : l.length ≤ 1000000) (d : Nat) : ∀ (k : Nat) (i : Nat), i ≤ l.length → l.length - i = d → d < k → tremaref09_Has.l0 k l v i = some (decide (v ∈ l.drop i)) := by
  induction d with
  | zero =>
    intro k i h1 hd hk
    obtain ⟨k, rfl⟩ : ∃ m, k = m + 1 := ⟨k - 1, by omega⟩
    simp only [tremaref09_Has.l0]
    rw [if_neg (by omega), List.drop_eq_nil_of_le (by omega)]
    simp
  | succ d ih =>
    intro k i h1 hd hk
    obtain ⟨k, rfl⟩ : ∃ m, k = m + 1 := ⟨k - 1, by omega⟩
    have hlt : i < l.length := by omega
    have hr : rd l (i : Int) = l[i] := by simp [rd, List.getD_eq_getElem?_getD, hlt]
    have hw : wrap64 ((i : Int) + 1) = ((i + 1 : Nat) : Int) := by unfold wrap64; omega
    simp only [tremaref09_Has.l0]
    have hmem : (v ∈ l.drop i) ↔ (v = l[i] ∨ v ∈ l.drop (i + 1)) := by rw [List.drop_eq_getElem_cons hlt, List.mem_cons]
    rw [if_pos (by omega), if_pos (by omega), hr, hw, ih k (i + 1) (by omega) (by omega) (by omega)]
    simp only [hmem]
    by_cases e : l[i] = v
    · rw [if_pos e]; simp [e]
    · rw [if_neg e]; simp [Ne.symm e]
theorem Has_pure (l : List Int) (v : Int) (hl : l.length ≤ 1000000) : tremaref09_Has.f (l.length + 1) l v = some (decide (v ∈ l)) := by
  have := has_pure l v hl l.length (l.length + 1) 0 (by omega) (by omega) (by omega)
  simpa [tremaref09_Has.f] using this
theorem Step_pure (size : Int) (l : List Int) (o : Int × Int) (hl : l.length ≤ 65536) : ∃ k, tremaref09_Step.f k size l o.1 o.2 = some (stepL (setSize size) l o) := by
  obtain ⟨kd, v⟩ := o
  have hj : ∀ s : Int, (∀ x : Int, 0 ≤ x → ((x < s) ↔ (x < setSize size))) → tremaref09_Step.j0 (l.length + 2) s l kd v = some (stepL (setSize size) l (kd, v)) := by
    intro s hs
    simp only [tremaref09_Step.j0, Has_pure l v (by omega), Option.bind_some, stepL]
    by_cases h1 : kd = 1
    · rw [if_pos h1, if_pos h1]
      simp only [addL]
      by_cases h0 : v < 0
      · rw [if_pos h0, if_neg (by omega), if_neg (by omega)]
      · rw [if_neg h0]
        have hq := hs v (by omega)
        by_cases h2 : v ≥ s
        · rw [if_pos h2, if_neg (by omega), if_neg (by omega)]
        · rw [if_neg h2]
          by_cases h3 : v ∈ l
          · rw [if_pos (by simpa using h3), if_neg (by simp [h3]), if_neg (by simp [h3])]
          · rw [if_neg (by simpa using h3), if_pos (by omega), if_pos ⟨by omega, by omega, h3⟩, if_pos ⟨by omega, by omega, h3⟩]
    · rw [if_neg h1, if_neg h1]
      by_cases h2 : kd = 2
      · rw [if_pos h2, if_pos h2]
        by_cases h3 : v ∈ l <;> simp [h3]
      · rw [if_neg h2, if_neg h2]
        by_cases h3 : kd = 3
        · rw [if_pos h3, if_pos h3]
        · rw [if_neg h3, if_neg h3]
          by_cases h4 : kd = 4
          · rw [if_pos h4, if_pos h4]
            by_cases h5 : v < 0
            · rw [if_pos h5, if_neg (by omega)]
            · rw [if_neg h5]
              by_cases h6 : v ≥ (l.length : Int)
              · rw [if_pos h6, if_neg (by omega)]
              · rw [if_neg h6, if_pos (by omega), if_pos (by omega), if_pos (by omega)]; rfl
          · rw [if_neg h4, if_neg h4]
            split <;> rfl
  refine ⟨l.length + 2, ?_⟩
  unfold tremaref09_Step.f
  split
  · exact hj 65536 (fun x hx => by unfold setSize; omega)
  · exact hj size (fun x hx => by unfold setSize; omega)

/-- At the head of a round. -/
def Inv (w0 : World) (N : Nat) (ops : List (Int × Int)) (k : Nat) (want m : Value) (wr : World) : Prop :=
  ∃ P : Nat → Prop, Kd.R (Kd.int .i64) TI wr w0.heap.size P m (runK N ops k).2 ∧ wr.ownsRow w0.heap.size TI 1 want k (nums .i64 (runK N ops k).1) ∧ (∀ b, want.ownBlock = some b → ¬ P b) ∧ (∀ b, P b → b < wr.heap.size) ∧ Below w0.heap.size w0 wr
theorem Inv.below {w0 W : World} {N k : Nat} {ops : List (Int × Int)} {want m : Value} (h : Inv w0 N ops k want m W) : Below w0.heap.size w0 W := by
  obtain ⟨_, _, _, _, _, h⟩ := h; exact h

set_option maxRecDepth 100000 in
set_option maxHeartbeats 4000000 in
theorem walk (w : World) (A : Option Addr) (n c : Nat) (size : Int) (ops : List (Int × Int)) (hs : (Lit.int .i64 size).wf = true) (hA : kOp.C w A n ops) (hn8 : n * 8 ≤ 140737488355328)
    (hwf : ∀ j, j < n → (Lit.int .i64 (ops.getD j (0, 0)).1).wf = true ∧ (Lit.int .i64 (ops.getD j (0, 0)).2).wf = true) :
    Calls Try.prog 3 #[.int .i64 size, .slice A n c] w fun e w' => e = .returned (.bool true) ∧ Below w.heap.size w w' := by
  have hm := Kd.C_max hA
  have hl := Kd.C_len hA
  have HA := Aside0.mk hA
  have HL := Aside0.mk hl
  have HW := Aside0.mk hwf
  clear hA hl hwf
  go_enter Try.func3, Try.ntmps3
  go_wp2_with (first | (go_at_call 15; refine (Sf.fixed w).mono ?_; rintro e w1 ⟨rfl, h1⟩; have H1 := Aside0.mk h1; clear h1) | (go_at_call 16; go_must (refine (play _ A n c size ops hs (Kd.C_below HA.out H1.out) hn8 (fun j hj => (HW.out j hj).2)).mono ?_; rintro e w2 ⟨v1, v2, rfl, p1, p2, p3⟩; have P1 := Aside0.mk p1; have P2 := Aside0.mk p2; have P3 := Aside0.mk p3; clear p1 p2 p3)))
  go_loopw [7, 8, 22] (fun want m i wr => ∃ k : Nat, k ≤ n ∧ i = .int .i64 k ∧ Aside0 (Inv w2 (setSize size) ops k want m wr)) (fun _ _ i _ => n - (intOf i).toNat)
  case atStart => exact ⟨0, Nat.zero_le _, rfl, ⟨fun _ => False, Kd.R_nil _ _ _ _ _, own_nil _ _ _ _, fun _ _ h => h, fun _ h => h.elim, Below.refl _ _⟩⟩
  case round =>
    obtain ⟨k, hk, rfl, HI⟩ := hrel
    have hbw : Below w.heap.size w w2 := below_then H1.out H1.out.size P3.out
    by_cases hlt : k < n
    · have hd : decide (k < n) = true := by simpa using hlt
      obtain ⟨kd, v, ho⟩ : ∃ a b, ops.getD k (0, 0) = (a, b) := ⟨_, _, rfl⟩
      obtain ⟨ad, rfl, hc0, hc1⟩ := op_at HA.out k hlt
      rw [ho] at hc0 hc1
      simp only at hc0 hc1
      have hbl : Below w.heap.size w wr := below_then hbw hbw.size HI.out.below
      have hc0 := pw_cell_below hbl hc0
      have hc1 := pw_cell_below hbl hc1
      obtain ⟨P, i1, i2, i3, i4, i5⟩ := HI.out
      have I1 := Aside0.mk (Kd.R_alloc i1 (.cells #[.int .i64 kd, .int .i64 v] 28))
      have I2 := Aside0.mk (i2.alloc (.cells #[.int .i64 kd, .int .i64 v] 28))
      have I3 := Aside0.mk i3
      have I4 := Aside0.mk i4
      have I5 := Aside0.mk (i5.alloc i5.size (.cells #[.int .i64 kd, .int .i64 v] 28))
      obtain ⟨q, hq⟩ := Step_pure size (runK (setSize size) ops k).2 (kd, v) (runK_le size ops k)
      obtain ⟨r1, r2, hr⟩ : ∃ r1 r2, stepL (setSize size) (runK (setSize size) ops k).2 (kd, v) = (r1, r2) := ⟨_, _, rfl⟩
      rw [hr] at hq
      have HS := Aside0.mk (tremaref09_Step.calls q size P u8 _ kd v r1 r2 w2 _ I5.out I1.out hq)
      have HE := Aside0.mk ho
      have HR := Aside0.mk hr
      clear i1 i2 i3 i4 i5 hbl hbw hq ho hr
      go_wp2_with (first | (go_at_call 17; go_must (refine HS.out.mono ?_; rintro e w3 ⟨m', rfl, s1, s2, s3⟩; have S1 := Aside0.mk s1; have S2 := Aside0.mk s2; have S3 := Aside0.mk s3; clear s1 s2 s3)) | (at_builtin; go_must (refine print_append_num (w0 := w2) w2.heap.size rfl (.tmp 36) (.tmp 38) 24 3 .i64 8 rfl Try.underlying24 Spint.info_e (by decide) _ (runK (setSize size) ops k).1 _ rfl rfl (by rw [runK_len]; exact own_move I2.out (fun b hb => S3.out.2 b (own_lt I2.out b hb) (I3.out b hb))) S2.out S2.out.size (by rw [runK_len]; omega) ?hh)))
      case hh =>
        intro v1 w1 hown hb1 hg1 hat1
        have HI2 : Aside0 (Inv w2 (setSize size) ops (k + 1) v1 m' w1) := by
          have hw3 := S3.out.1
          rw [World.size_alloc] at hw3
          refine ⟨⟨fun b => (P b ∨ (wr.alloc (.cells #[.int .i64 kd, .int .i64 v] 28)).heap.size ≤ b) ∧ b < w3.heap.size, ?_, ?_, ?_, ?_, hb1⟩⟩
          · have e : (runK (setSize size) ops (k + 1)).2 = r2 := by simp only [runK, HE.out, HR.out]
            rw [e]
            have h1 := Kd.R_grown S1.out hg1 (fun b hb he => by
              rcases hb with hb | hb
              · exact I3.out b he.symm hb
              · have := own_lt I2.out b he.symm; omega)
            refine Kd.R_mono (Kd.R_bound (Kd.R_grown (Kd.R_bound S1.out) hg1 (fun b hb he => by
              rcases hb.1 with hb | hb
              · exact I3.out b he.symm hb
              · have := own_lt I2.out b he.symm; omega))) (fun b hb => ⟨hb.1.1, hb.1.2.2.1⟩)
          · have e : (runK (setSize size) ops (k + 1)).1 = (runK (setSize size) ops k).1 ++ [r1] := by simp only [runK, HE.out, HR.out]
            rw [e]
            rw [runK_len] at hown
            exact hown
          · intro b he hb
            rcases hat1 with ha | ⟨b', ha, hle⟩
            · rw [ha] at he
              rcases hb.1 with hb | hb
              · exact I3.out b he hb
              · have := own_lt I2.out b he; omega
            · rw [ha] at he; injection he with he; omega
          · exact fun b hb => Nat.lt_of_lt_of_le hb.2 hg1.size
        clear hown hb1 hg1 hat1
        go_wp2
        go_roundw
        case rel => exact ⟨k + 1, by omega, by go_num, HI2⟩
        case measure => simp [intOf]; omega
    · have hd : decide (k < n) = false := by simpa using hlt
      obtain rfl : k = n := by omega
      obtain ⟨P, i1, i2, i3, i4, i5⟩ := HI.out
      have hL := HL.out
      have g1 := pw_own_below P1.out i5
      have g2 := pw_own_below P2.out i5
      rw [hL] at g1 g2
      obtain ⟨A1, c1, rfl, t1⟩ := own_reads g1
      obtain ⟨A2, c2, rfl, t2⟩ := own_reads g2
      obtain ⟨A3, c3, rfl, t3⟩ := own_reads i2
      obtain ⟨A4, c4, rfl, hc4, t4⟩ := Kd.R_reads i1
      have t4 := rdint t4
      have T1 := Aside0.mk t1
      have T2 := Aside0.mk t2
      have T3 := Aside0.mk t3
      have T4 := Aside0.mk t4
      have BW := Aside0.mk (below_then hbw hbw.size i5)
      clear i1 i2 i3 i4 i5 hL g1 g2 t1 t2 t3 t4 hbw hc4
      go_wp2_with (go_at_call 18; have t1 := T1.out; refine (Sn.same_true _ _ _ _ _ _ _ _ _ t1 T3.out rfl).mono ?_; rintro e w5 ⟨rfl, hq⟩; have HQ := Aside0.mk hq; clear hq T1 t1)
      go_wp2_with (go_at_call 18; go_must (refine (Sn.same_true _ _ _ _ _ _ _ _ _ (T2.out.below HQ.out.below) (T4.out.below HQ.out.below) rfl).mono ?_; rintro e w6 ⟨rfl, hq⟩; have HQ2 := Aside0.mk hq; clear hq))
      go_ret
      exact ⟨rfl, below_then (below_then BW.out BW.out.size HQ.out.below) (below_then BW.out BW.out.size HQ.out.below).size HQ2.out.below⟩

/-- The walk, as the row asks for it. -/
theorem law (w : World) (size : Int) (hs : (Lit.int .i64 size).wf = true) (A : Option Addr) (ops : List (Int × Int)) (c : Nat) (hA : kOp.C w A ops.length ops) (_hc : ops.length ≤ c)
    (hwf : ∀ x, x ∈ ops → (Lit.int .i64 x.1).wf = true ∧ (Lit.int .i64 x.2).wf = true) (hb : ops.length * 16 ≤ 140737488351232) :
    Calls Try.prog 3 #[.int .i64 size, .slice A ops.length c] w fun e w' => e = .returned (.bool true) ∧ Below w.heap.size w w' :=
  walk w A ops.length c size ops hs hA (by omega) (fun j hj => by
    have : ops.getD j (0, 0) ∈ ops := by rw [List.getD_eq_getElem?_getD, List.getElem?_eq_getElem hj]; exact List.getElem_mem hj
    exact hwf _ this)
end Go.Proofs.Ytpebemljgeammaa.Sa
