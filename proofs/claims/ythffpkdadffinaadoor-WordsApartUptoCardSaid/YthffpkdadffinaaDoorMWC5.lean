/-
  Several texts of this claim in one: what its law's proof uses.
-/
import Derived.Test.YthffpkdadffinaaDoorMWC4
import Derived.Test.YthffpkdadffinaaDoorMWC2
import Derived.Test.YthffpkdadffinaaDoorMWC3
namespace Go.Proofs.YthffpkdadffinaaDoor.Vu
set_option linter.unusedVariables false
set_option linter.unusedSimpArgs false
open Go.RowKit Go.Proofs.YthffpkdadffinaaDoorW.PrintWords Go.Proofs.YthffpkdadffinaaDoor.Ev0 Go.Proofs.YthffpkdadffinaaDoor.X Go.Proofs.YthffpkdadffinaaDoor.Va Go.Proofs.YthffpkdadffinaaDoor.Vc Go.Proofs.YthffpkdadffinaaDoor.Vd Go.Proofs.YthffpkdadffinaaDoor.Ve Go.Proofs.YthffpkdadffinaaDoor.Vp0
def parts (x : Int) : List Int := if (pairU x).2.2 = 1 then [(pairU x).1] else [(pairU x).1, (pairU x).2.1]
theorem getLt {l : List Int} {i : Nat} (h : i < l.length) : (i : Int) < (l.length : Int) := by omega
theorem scan {l : List Int} {R : List Int} (hr : ∀ y ∈ l, I32 y) (hl : l.length ≤ 1000) (m : Nat) (hm : m ≤ l.length) (hz : ∀ i (h : i < m), (pairU (l[i]'(by omega))).2.2 = 0)
    (h : Ev (fun k => tremaref02_Decompose.l1 k l (-1) 0 0 0 (m : Int)) R) : Ev (fun k => tremaref02_Decompose.l0 k l) R := by
  refine Ev.step (fun k => tremaref02_Decompose.l0.eq_2 ..) ?_
  refine ev_range (n := m) (F := fun k i => tremaref02_Decompose.l1 k l (-1) 0 0 0 i) h (fun i hi ih => ?_) 0 (Nat.zero_le _)
  have hil : i < l.length := by omega
  have hy := hr _ (List.getElem_mem hil)
  unfold I32 at hy
  have hw := w64 (i := i) (by omega)
  have hzi := hz i hi
  refine Ev.step (fun k => tremaref02_Decompose.l1.eq_2 ..) ?_
  simp only [if_pos (getLt hil), show decide ((-1 : Int) < 0) = true from rfl]
  refine Ev.step (fun k => tremaref02_Decompose.j2.eq_2 ..) ?_
  simp only [if_true, if_pos (show (0 : Int) ≤ (i : Int) by omega), if_pos (getLt hil), rd_nat hil, tremaref02_Pair.f, if_pos hy, Option.bind_some, hzi, if_neg (show ¬ (0 : Int) > 0 by decide), hw]
  exact ih
theorem done {l : List Int} (hr : ∀ y ∈ l, I32 y) (hl : l.length ≤ 1000) (hz : ∀ y ∈ l, (pairU y).2.2 = 0) : Ev (fun k => tremaref02_Decompose.l0 k l) l := by
  refine scan hr hl l.length (Nat.le_refl _) (fun i h => hz _ (List.getElem_mem h)) ?_
  refine Ev.step (fun k => tremaref02_Decompose.l1.eq_2 ..) ?_
  simp only [if_neg (Int.lt_irrefl _)]
  refine Ev.step (fun k => tremaref02_Decompose.j2.eq_2 ..) ?_
  simp only [if_neg Bool.false_ne_true, if_pos (show (-1 : Int) < 0 by decide)]
  exact Ev.now _
def accU (p q : List Int) (x : Int) (i : Nat) : List Int := if i ≤ p.length then p.take i else p ++ parts x ++ q.take (i - p.length - 1)
theorem one {p q : List Int} {x : Int} {R : List Int} (hr : ∀ y ∈ p ++ [x] ++ q, I32 y) (hl : p.length + q.length ≤ 900) (hz : ∀ y ∈ p, (pairU y).2.2 = 0) (hx : (pairU x).2.2 = 1 ∨ (pairU x).2.2 = 2)
    (h : Ev (fun k => tremaref02_Decompose.l0 k (p ++ parts x ++ q)) R) : Ev (fun k => tremaref02_Decompose.l0 k (p ++ [x] ++ q)) R := by
  obtain ⟨l, hll⟩ : ∃ l, l = p ++ [x] ++ q := ⟨_, rfl⟩
  have hlen : l.length = p.length + 1 + q.length := by rw [hll]; simp; omega
  have hxx := hr x (by simp)
  unfold I32 at hxx
  have hpl : p.length < l.length := by omega
  have hpx : l[p.length]'hpl = x := by subst hll; simp
  have hpi : ∀ i (h : i < p.length), l[i]'(by omega) = p[i] := fun i h => by subst hll; simp [List.getElem_append, h]
  have hqi : ∀ i (h : i < q.length), l[p.length + 1 + i]'(by omega) = q[i] := fun i h => by
    subst hll
    rw [List.getElem_append_right (by simp)]
    congr 1
    simp
  rw [← hll] at hr ⊢
  clear hll
  refine scan hr (by omega) p.length (by omega) (fun i h => by rw [hpi i h]; exact hz _ (List.getElem_mem h)) ?_
  have hw := w64 (i := p.length) (by omega)
  refine Ev.step (fun k => tremaref02_Decompose.l1.eq_2 ..) ?_
  simp only [if_pos (getLt hpl), show decide ((-1 : Int) < 0) = true from rfl]
  refine Ev.step (fun k => tremaref02_Decompose.j2.eq_2 ..) ?_
  simp only [if_true, if_pos (show (0 : Int) ≤ (p.length : Int) by omega), if_pos (getLt hpl), rd_nat hpl, hpx, tremaref02_Pair.f, if_pos hxx, Option.bind_some, if_pos (show (pairU x).2.2 > 0 by omega), hw]
  have key : Ev (fun k => tremaref02_Decompose.j2 k l (p.length : Int) (pairU x).1 (pairU x).2.1 (pairU x).2.2 ((p.length + 1 : Nat) : Int) false) R := by
    refine Ev.step (fun k => tremaref02_Decompose.j2.eq_2 ..) ?_
    simp only [if_neg Bool.false_ne_true, if_neg (show ¬ (p.length : Int) < 0 by omega)]
    have start : accU p q x (0 : Int).toNat = [] := by simp [accU]
    have hacc : ∀ i, (accU p q x i).length ≤ 1000 := fun i => by
      unfold accU parts
      split
      · rw [List.length_take]; omega
      · split <;> simp <;> omega
    have loop := ev_range (n := l.length) (r := R) (F := fun k i => tremaref02_Decompose.l2 k l (p.length : Int) (pairU x).1 (pairU x).2.1 (pairU x).2.2 (accU p q x i.toNat) i) ?_ ?_ 0 (Nat.zero_le _)
    · have := loop
      simp only [Int.natCast_zero, start] at this
      exact this
    · refine Ev.step (fun k => tremaref02_Decompose.l2.eq_2 ..) ?_
      simp only [if_neg (Int.lt_irrefl _), Int.toNat_natCast]
      have he : accU p q x l.length = p ++ parts x ++ q := by
        unfold accU
        rw [if_neg (by omega), hlen, show p.length + 1 + q.length - p.length - 1 = q.length by omega, List.take_length]
      rw [he]
      exact h
    · intro i hi ih
      have hwi := w64 (i := i) (by omega)
      simp only [Int.toNat_natCast] at ih ⊢
      have ha := hacc i
      refine Ev.step (fun k => tremaref02_Decompose.l2.eq_2 ..) ?_
      simp only [if_pos (getLt hi), hwi]
      by_cases e : i = p.length
      · have ea : accU p q x (i + 1) = accU p q x i ++ parts x := by
          subst e
          unfold accU
          rw [if_neg (by omega), if_pos (Nat.le_refl _)]
          simp
        rw [ea] at ih
        simp only [if_pos (show (i : Int) = (p.length : Int) by omega)]
        rcases hx with h1 | h2
        · have hp : parts x = [(pairU x).1] := by unfold parts; rw [if_pos h1]
          rw [hp] at ih
          simp only [if_pos h1, if_pos (show (accU p q x i).length < 35184372088832 by omega)]
          exact ih
        · have hp : parts x = [(pairU x).1, (pairU x).2.1] := by unfold parts; rw [if_neg (by omega)]
          rw [hp] at ih
          simp only [if_neg (show ¬ (pairU x).2.2 = 1 by omega), Option.bind_some, if_pos (show (accU p q x i).length + ([(pairU x).1, (pairU x).2.1] : List Int).length < 35184372088832 by simp; omega)]
          exact ih
      · have ea : accU p q x (i + 1) = accU p q x i ++ [l[i]] := by
          unfold accU
          by_cases e2 : i < p.length
          · rw [if_pos (by omega), if_pos (by omega), hpi i e2, List.take_succ_eq_append_getElem e2]
          · obtain ⟨j, rfl⟩ : ∃ j, i = p.length + 1 + j := ⟨i - p.length - 1, by omega⟩
            have hj : j < q.length := by omega
            rw [if_neg (by omega), if_neg (by omega), hqi j hj, show p.length + 1 + j + 1 - p.length - 1 = j + 1 by omega, show p.length + 1 + j - p.length - 1 = j by omega, List.take_succ_eq_append_getElem hj]
            simp
        rw [ea] at ih
        simp only [if_neg (show ¬ (i : Int) = (p.length : Int) by omega), if_pos (show (0 : Int) ≤ (i : Int) by omega), if_pos (show (accU p q x i).length < 35184372088832 by omega), rd_nat hi]
        exact ih
  refine Ev.step (fun k => tremaref02_Decompose.l1.eq_2 ..) ?_
  by_cases hc : ((p.length + 1 : Nat) : Int) < (l.length : Int)
  · simp only [if_pos hc, decide_eq_false (show ¬ (p.length : Int) < 0 by omega)]
    exact key
  · simp only [if_neg hc]
    exact key
end Go.Proofs.YthffpkdadffinaaDoor.Vu
namespace Go.Proofs.YthffpkdadffinaaDoor.X
open Go.RowKit Go.Proofs.YthffpkdadffinaaDoorW.PrintWords Go.Proofs.YthffpkdadffinaaDoorW.PrintLast Go.Proofs.YthffpkdadffinaaDoorW.PrintMore
attribute [local go_sem] max2_int min2_int max_two min_two max_three min_three max_four min_four   
set_option linter.unusedVariables false
set_option linter.unusedSimpArgs false
def norm_Normal.l0 : Nat → List Int → List Int → Int → Int → Option (List Int)
 | 0, _, _, _, _ => none
 | k + 1, x3, x6, x7, x8 => if x8 < x7 then (if 0 ≤ x8 then (if x8 < (x6.length : Int) then ((ucd_Decompose.f (rd x6 x8)).bind fun t342 => (if x3.length + t342.length < 35184372088832 then (norm_Normal.l0 k (x3 ++ t342) x6 x7 (wrap64 (x8 + 1))) else (none))) else (none)) else (none)) else ((norm_ordered.f x3).bind fun t348 => (some t348))
def norm_Normal.f (k : Nat) (l0 : List Int) : Option (List Int) := norm_Normal.l0 k ([] : List Int) l0 (l0.length : Int) 0
theorem norm_Normal.mono_l : ∀ k, (∀ y0 y1 y2 y3, LeO (norm_Normal.l0 k y0 y1 y2 y3) (norm_Normal.l0 (k + 1) y0 y1 y2 y3))
 | 0 => fun _ _ _ _ r h => by simp [norm_Normal.l0] at h
 | k + 1 => by
  have ih0 := norm_Normal.mono_l k
  ·intro y0 y1 y2 y3
   unfold norm_Normal.l0
   repeat' first
   | (with_reducible exact ih0 _ _ _ _)
   | (with_reducible exact LeO.refl _)
   | (with_reducible exact LeO.none _)
   | (with_reducible refine LeO.ite ?_ ?_)
   | (with_reducible refine LeO.bind ?_ (fun _ => ?_))
   | exact ih0 _ _ _ _
   | exact LeO.none _
   | refine LeO.ite ?_ ?_
   | refine LeO.bind ?_ (fun _ => ?_)
theorem norm_Normal.mono : ∀ a0 k, LeO (norm_Normal.f k a0) (norm_Normal.f (k + 1) a0) := by
 intro a0 k
 have ih0 := norm_Normal.mono_l k
 unfold norm_Normal.f
 repeat' first
   | (with_reducible exact ih0 _ _ _ _)
   | (with_reducible exact LeO.refl _)
   | (with_reducible exact LeO.none _)
   | (with_reducible refine LeO.ite ?_ ?_)
   | (with_reducible refine LeO.bind ?_ (fun _ => ?_))
   | exact ih0 _ _ _ _
   | exact LeO.none _
   | refine LeO.ite ?_ ?_
   | refine LeO.bind ?_ (fun _ => ?_)
set_option maxHeartbeats 8000000 in
set_option maxRecDepth 100000 in
theorem norm_Normal.calls (k : Nat) (A0 : Option Addr) (c0 : Nat) (l0 : List Int) (r : List Int) (w : World) (hr0 : Kd.C (Kd.int .i32) w A0 l0.length l0) (hc0 : l0.length ≤ c0) (h : norm_Normal.f k l0 = some r) (hG0 : Va.G w) :
  Calls Tryd.prog 71 #[.slice A0 l0.length c0] w fun e w' => ∃ v0_ : Value, e = .returned (v0_) ∧ Kd.R (Kd.int .i32) 21 w' w.heap.size (fun _ => True) v0_ r ∧ Below w.heap.size w w' := by
 have HG := Aside0.mk hG0
 clear hG0
 have HR0 := Aside0.mk hr0
 have HC0 := Aside0.mk hc0
 clear hr0 hc0
 have HB := Aside0.mk (Below.refl w.heap.size w)
 have H : (norm_Normal.l0 k ([] : List Int) l0 (l0.length : Int) 0) = some r := h
 clear h
 have H' := Aside0.mk H
 clear H
 go_enter Tryd.func71, Tryd.ntmps71
 go_wp2
 go_loopg [3, 8] k (fun kq v3 v8 w' => ∃ (x3_1 : List Int) (x8_1 : Int), v8 = .int .i64 x8_1 ∧ Aside0 (norm_Normal.l0 kq x3_1 l0 (l0.length : Int) x8_1 = some r) ∧ Aside0 (kq ≤ k) ∧ Aside0 (Kd.R (Kd.int .i32) 21 w' w.heap.size (fun _ => True) v3 x3_1) ∧ Aside0 (Below w.heap.size w w'))
 case atStart => exact ⟨(([] : List Int)), (0), (by first | rfl | (simp; done) | (simp [*]; done)), H', ⟨Nat.le_refl _⟩, ⟨by first | exact Kd.R_nil _ _ _ _ _ | exact Kd.N_nil _ _ _ _ _ | exact Kd.V_nil _ _ _ _ _ | exact Kd.Q_nil _ _ _ _ _ | exact Kd.S_nil _ _ _ _ _⟩, ⟨by repeat (first | (with_reducible first | exact HB.out | apply below_alloc | apply pw_below_drewN | apply below_drew1) | exact HB.out)⟩⟩
 case round =>
  clear H'
  obtain ⟨x3_1, x8_1, rfl, HA, HK1, HO_3, HB⟩ := hrel
  cases gk with
  | zero => exact absurd HA.out (by simp [norm_Normal.l0])
  | succ k1 =>
   have H := HA.out
   clear HA
   simp only [norm_Normal.l0] at H
   by_cases c2 : x8_1 < (l0.length : Int)
   ·rw [if_pos c2] at H
    have c2b0 : decide (x8_1 < (l0.length : Int)) = true := decide_eq_true c2
    clear c2
    by_cases c3 : 0 ≤ x8_1
    ·rw [if_pos c3] at H
     have c3b0 : decide (0 ≤ x8_1) = true := decide_eq_true c3
     clear c3
     by_cases c4 : x8_1 < (l0.length : Int)
     ·rw [if_pos c4] at H
      have c4b0 : decide (x8_1 < (l0.length : Int)) = true := decide_eq_true c4
      clear c4
      replace H := Option.bind_eq_some_iff.mp H
      obtain ⟨t342, A50, H⟩ := H
      replace H : (if x3_1.length + t342.length < 35184372088832 then (norm_Normal.l0 k1 (x3_1 ++ t342) l0 (l0.length : Int) (wrap64 (x8_1 + 1))) else (none)) = some r := H
      have A5 := Aside0.mk A50
      clear A50
      by_cases c6 : x3_1.length + t342.length < 35184372088832
      ·rw [if_pos c6] at H
       have LMc6 := Aside0.mk c6
       clear c6
       obtain ⟨y345, hy345⟩ : ∃ y_ : List Int, y_ = (x3_1 ++ t342) := ⟨_, rfl⟩
       replace H : (norm_Normal.l0 k1 y345 l0 (l0.length : Int) (wrap64 (x8_1 + 1))) = some r := by first | (rw [hy345]; with_reducible exact H) | (have H2_ := (Option.bind_some _ _).symm.trans H; rw [hy345]; with_reducible exact H2_) | (have H2_ := (Option.bind_some _ _).symm.trans H; with_reducible exact H2_) | with_reducible exact H | (rw [hy345]; exact H) | exact H
       have Ny345 := Aside0.mk hy345
       clear hy345
       have H' := Aside0.mk H
       clear H
       have p341 : 0 ≤ (x8_1 : Int) := of_decide_eq_true (by first | (with_reducible assumption) | assumption)
       have q341 : x8_1 < (l0.length : Int) := of_decide_eq_true (by first | (with_reducible assumption) | assumption)
       obtain ⟨ad341, e341, hx341_0⟩ := Kd.at_int HR0.out x8_1 p341 q341
       cases e341
       replace hx341_0 := (HB.out.cell (World.block_lt_of_cell? w _ hx341_0)).trans hx341_0
       replace p341 := eq_true p341
       replace q341 := eq_true q341
       go_wp2_with (first | ((with_reducible refine gate_callee (f := 57) rfl ?_); refine goesL_ (some 14) rfl rfl Tryd.func57 (by kernel_rfl) rfl #[.int .i32 (rd l0 x8_1)] rfl (by (try simp only [List.map_toArray, List.map_cons, List.map_nil]); first | done | rfl | (simp only [List.length_drop, List.length_take]; rfl)) ?_; (with_reducible refine (ucd_Decompose.calls (rd l0 x8_1) t342 _ A5.out (by first | exact HG.out | exact Va.G.below HG.out (by repeat (first | (with_reducible first | exact HB.out | apply below_alloc | apply pw_below_drewN | apply below_drew1) | exact HB.out)))).mono ?_); rintro e w7 ⟨v343, rfl, ho0, hb⟩; refine ⟨_, rfl, ?_⟩; have n0_ := Aside0.mk (Kd.R_elder' (by (with_reducible repeat (first | apply Kd.R_alloc | apply Kd.R_drewN | apply Kd.R_drew)); exact HO_3.out) (Kd.R_base ho0) hb); have n1_ := Aside0.mk (Kd.R_lower (Kd.R_new' ho0 (Kd.R_lt (by (with_reducible repeat (first | apply Kd.R_alloc | apply Kd.R_drewN | apply Kd.R_drew)); exact HO_3.out))) (below_size (by repeat (first | (with_reducible first | exact HB.out | apply below_alloc | apply pw_below_drewN | apply below_drew1) | exact HB.out)))); have n2_ := Aside0.mk (below_step (by repeat (first | (with_reducible first | exact HB.out | apply below_alloc | apply pw_below_drewN | apply below_drew1) | exact HB.out)) hb); clear HO_3; clear HB; have HO_3 := n0_; have HO344 := n1_; have HB := n2_; clear n0_ n1_ n2_; (try clear hb); (try clear hb2); (try clear hk); (try clear hi); (try clear ho0); obtain ⟨Ao9, co9, eo9⟩ := Kd.R_slice HO344.out; subst eo9) | ((with_reducible refine gate_builtin (b := .append) (xs := #[.tmp 12, .tmp 14]) rfl ?_); at_builtin; refine Kd.R_append_rows (Kd.int .i32) (w0 := w) w.heap.size rfl (.tmp 12) (.tmp 14) 42 21 (.int .i32 0) 4 rfl Tryd.underlying42 info21 rfl (by decide) (by omega) u3 x3_1 t342 _ _ _ (fun k_ => some k_ ≠ (.slice Ao9 t342.length co9 : Value).ownBlock) (fun _ => False) rfl rfl ?aO ?aR (fun _ _ h => h) (fun _ h => h.elim) ?aF ?aB ?aS ?aL ?_; (case aR => repeat (first | exact (Kd.R_reads' HO344.out).2.2 | (with_reducible refine Kd.C_alloc ?_ _) | (with_reducible refine Kd.C_drewN ?_ _) | (with_reducible refine Kd.C_drew ?_))); (case aB => exact (by repeat (first | (with_reducible first | exact HB.out | apply below_alloc | apply pw_below_drewN | apply below_drew1) | exact HB.out))); (case aF => exact (fun k_ hk => Kd.fresh' (Kd.R_lt (by (with_reducible repeat (first | apply Kd.R_alloc | apply Kd.R_drewN | apply Kd.R_drew)); exact HO344.out)) k_ hk)); (case aO => exact (by (with_reducible repeat (first | apply Kd.R_alloc | apply Kd.R_drewN | apply Kd.R_drew)); exact Kd.R_mono HO_3.out (fun _ hk => hk.2))); (case aS => exact (below_size (by repeat (first | (with_reducible first | exact HB.out | apply below_alloc | apply pw_below_drewN | apply below_drew1) | exact HB.out)))); (case aL => have := LMc6.out; omega); intro v346 w8 ho hb hg hat; rw [← Ny345.out] at ho; have n0_ := Aside0.mk (Kd.R_after (ok := (fun _ => True)) (by (with_reducible repeat (first | apply Kd.R_alloc | apply Kd.R_drewN | apply Kd.R_drew)); exact HO344.out) hg hat); have n1_ := Aside0.mk (hb); have n2_ := Aside0.mk (ho); clear HO344; clear HB; clear HO_3; have HO344 := n0_; have HB := n1_; have HO347 := n2_; clear n0_ n1_ n2_; clear ho hb hg hat))
       go_roundg k1
       case measure => have := HK1.out; omega
       case rel => exact ⟨(y345), (wrap64 (x8_1 + 1)), (by first | rfl | (simp; done) | (simp [*]; done)), H', ⟨by have := HK1.out; omega⟩, ⟨by (with_reducible repeat (first | apply Kd.R_alloc | apply Kd.R_drewN | apply Kd.R_drew)); exact Kd.R_mono HO347.out (fun _ hk => trivial)⟩, ⟨by repeat (first | (with_reducible first | exact HB.out | apply below_alloc | apply pw_below_drewN | apply below_drew1) | exact HB.out)⟩⟩
      ·rw [if_neg c6] at H
       exact absurd H (by simp)
     ·rw [if_neg c4] at H
      exact absurd H (by simp)
    ·rw [if_neg c3] at H
     exact absurd H (by simp)
   ·rw [if_neg c2] at H
    have c2b0 : decide (x8_1 < (l0.length : Int)) = false := decide_eq_false c2
    clear c2
    replace H := Option.bind_eq_some_iff.mp H
    obtain ⟨t348, A100, H⟩ := H
    replace H : (some t348) = some r := H
    have A10 := Aside0.mk A100
    clear A100
    obtain rfl := Option.some.inj H
    obtain ⟨Ao11, co11, eo11⟩ := Kd.R_slice HO_3.out
    subst eo11
    go_wp2_with (first | ((with_reducible refine gate_callee (f := 92) rfl ?_); refine goesL_ (some 18) rfl rfl Tryd.func92 (by kernel_rfl) rfl #[.slice Ao11 x3_1.length co11] rfl (by (try simp only [List.map_toArray, List.map_cons, List.map_nil]); first | done | rfl | (simp only [List.length_drop, List.length_take]; rfl)) ?_; (with_reducible refine (norm_ordered.calls (fun k_ => some k_ = (.slice Ao11 x3_1.length co11 : Value).ownBlock) (.slice Ao11 x3_1.length co11) x3_1 t348 w _ ?side1 ?side2 A10.out (by first | exact HG.out | exact Va.G.below HG.out (by repeat (first | (with_reducible first | exact HB.out | apply below_alloc | apply pw_below_drewN | apply below_drew1) | exact HB.out)))).mono ?_); (case side1 => repeat (first | (with_reducible first | exact HB.out | apply below_alloc | apply pw_below_drewN | apply below_drew1) | exact HB.out)); (case side2 => exact Kd.R_tight rfl HO_3.out); rintro e w12 ⟨v349, rfl, ho0, hb, hkp⟩; refine ⟨_, rfl, ?_⟩; have n0_ := Aside0.mk (Kd.R_mono (ok' := fun k_ => True) ho0 (fun k_ hk_ => trivial)); have n1_ := Aside0.mk (hb); clear HB; clear HO_3; have HO350 := n0_; have HB := n1_; clear n0_ n1_; (try clear hb); (try clear hkp); (try clear ho0)))
    go_ret
    exact ⟨_, by first | rfl | (simp [errW_none, errW_some] <;> rfl) | (simp [*, errW_none, errW_some] <;> rfl), by (with_reducible repeat (first | apply Kd.R_alloc | apply Kd.R_drewN | apply Kd.R_drew)); exact HO350.out, by repeat (first | (with_reducible first | exact HB.out | apply below_alloc | apply pw_below_drewN | apply below_drew1) | exact HB.out)⟩
end Go.Proofs.YthffpkdadffinaaDoor.X
namespace Go.Proofs.YthffpkdadffinaaDoor.Oa
set_option linter.unusedVariables false
set_option linter.unusedSimpArgs false
open Go.Proofs.YthffpkdadffinaaDoor.Vd (decU)
open Go.RowKit Go.Proofs.YthffpkdadffinaaDoorW.PrintWords Go.Proofs.YthffpkdadffinaaDoor.Ev0 Go.Proofs.YthffpkdadffinaaDoor.X Go.Proofs.YthffpkdadffinaaDoor.Va Go.Proofs.YthffpkdadffinaaDoor.Vc Go.Proofs.YthffpkdadffinaaDoor.Ve Go.Proofs.YthffpkdadffinaaDoor.Vp0 Go.Proofs.YthffpkdadffinaaDoor.Vu Go.Proofs.YthffpkdadffinaaDoor.Na
def flat (l : List Int) : List Int := l.flatMap decU
def nrm (l : List Int) : List Int := ordL (flat l)
theorem flat_cons (x : Int) (l : List Int) : flat (x :: l) = decU x ++ flat l := List.flatMap_cons ..
theorem flat_app (a b : List Int) : flat (a ++ b) = flat a ++ flat b := List.flatMap_append ..
theorem dec_len3 (x : Int) (hx : I32 x) : (decU x).length ≤ 3 := (bottom x hx).hi
theorem flat_len (l : List Int) (hl : ∀ x ∈ l, I32 x) : (flat l).length ≤ 3 * l.length := by
  induction l with
  | nil => simp [flat]
  | cons x t ih =>
    have := ih (fun y hy => hl y (List.mem_cons_of_mem _ hy))
    have := dec_len3 x (hl x (List.mem_cons_self ..))
    rw [flat_cons, List.length_append, List.length_cons]
    omega
def Rd : List Int → Prop
  | [] => True
  | [_] => True
  | y :: x :: t => (cls y = 0 ∨ cls x ≤ cls y) ∧ Rd (x :: t)
theorem Rd.tail {x : Int} {t : List Int} (h : Rd (x :: t)) : Rd t := by
  cases t with
  | nil => trivial
  | cons y t => exact h.2
theorem ins_rd (x : Int) : ∀ r, Rd r → Rd (ins x r)
  | [], _ => trivial
  | [y], _ => by
    rw [ins]
    split
    · rename_i h; exact ⟨.inr (Int.le_of_lt h.2), trivial⟩
    · rename_i h
      refine ⟨?_, trivial⟩
      rcases Classical.em (cls x = 0) with h0 | h0
      · exact .inl h0
      · exact .inr (Int.not_lt.1 fun k => h ⟨h0, k⟩)
  | y :: z :: r, h => by
    rw [ins]
    split
    · rename_i h1
      have h2 := ins_rd x (z :: r) h.2
      rw [ins] at h2 ⊢
      split
      · rename_i h3; rw [if_pos h3] at h2; exact ⟨h.1, h2⟩
      · rename_i h3; rw [if_neg h3] at h2; exact ⟨.inr (Int.le_of_lt h1.2), h2⟩
    · rename_i h1
      refine ⟨?_, h⟩
      rcases Classical.em (cls x = 0) with h0 | h0
      · exact .inl h0
      · exact .inr (Int.not_lt.1 fun k => h1 ⟨h0, k⟩)
theorem ordR_rd (l : List Int) : Rd (ordR l) := by
  have key : ∀ (l r : List Int), Rd r → Rd (l.foldl (fun acc x => ins x acc) r) := by
    intro l
    induction l with
    | nil => exact fun r h => h
    | cons x t ih => exact fun r h => ih _ (ins_rd x r h)
  exact key l [] trivial
theorem ins_id {x : Int} {r : List Int} (h : Rd (x :: r)) : ins x r = x :: r := by
  cases r with
  | nil => rfl
  | cons y r =>
    rw [ins, if_neg]
    intro k
    rcases h.1 with h0 | h0
    · exact k.1 h0
    · exact absurd k.2 (Int.not_lt.2 h0)
theorem ordR_snoc (l : List Int) (x : Int) : ordR (l ++ [x]) = ins x (ordR l) := by unfold ordR; rw [List.foldl_append]; rfl
theorem ordR_id : ∀ r : List Int, Rd r → ordR r.reverse = r
  | [], _ => rfl
  | x :: r, h => by rw [List.reverse_cons, ordR_snoc, ordR_id r h.tail, ins_id h]
theorem ordL_id (l : List Int) : ordL (ordL l) = ordL l := by
  show (ordR (ordR l).reverse).reverse = _
  rw [ordR_id _ (ordR_rd l)]
  rfl
theorem dec_bot (x : Int) (hx : I32 x) : ∀ y ∈ decU x, decU y = [y] ∧ I32 y := fun y hy =>
  ⟨dec_zero y ((bottom x hx).zero y hy), (bottom x hx).rng y hy⟩
theorem flat_bot (l : List Int) (hl : ∀ x ∈ l, I32 x) : ∀ y ∈ flat l, decU y = [y] ∧ I32 y := fun y hy => by
  obtain ⟨x, hx, hy⟩ := List.mem_flatMap.1 hy
  exact dec_bot x (hl x hx) y hy
theorem nrm_bot (l : List Int) (hl : ∀ x ∈ l, I32 x) : ∀ y ∈ nrm l, decU y = [y] ∧ I32 y := fun y hy => flat_bot l hl y ((ordL_mem _ _).1 hy)
theorem flat_id : ∀ l : List Int, (∀ y ∈ l, decU y = [y]) → flat l = l
  | [], _ => rfl
  | x :: t, h => by rw [flat_cons, h x (List.mem_cons_self ..), flat_id t (fun y hy => h y (List.mem_cons_of_mem _ hy))]; rfl
theorem nrm_id (l : List Int) (hl : ∀ x ∈ l, I32 x) : nrm (nrm l) = nrm l := by
  show ordL (flat (nrm l)) = _
  rw [flat_id _ (fun y hy => (nrm_bot l hl y hy).1)]
  exact ordL_id _
theorem nrm_len (l : List Int) : (nrm l).length = (flat l).length := ordL_len _
theorem nrm_len3 (l : List Int) (hl : ∀ x ∈ l, I32 x) : (nrm l).length ≤ 3 * l.length := by rw [nrm_len]; exact flat_len l hl
theorem normEv (l : List Int) (hwf : ∀ x ∈ l, I32 x) (hl : l.length ≤ 100000000) : Ev (fun k => norm_Normal.f k l) (nrm l) := by
  unfold norm_Normal.f
  have key := ev_range (n := l.length) (F := fun k i => norm_Normal.l0 k (flat (l.take i.toNat)) l (l.length : Int) i) (r := nrm l) ?_ ?_ 0 (Nat.zero_le _)
  · exact key
  · refine Ev.step (fun k => norm_Normal.l0.eq_2 ..) ?_
    have := flat_len l hwf
    simp only [if_neg (Int.lt_irrefl _), Int.toNat_natCast, List.take_length, norm_ordered.f, if_pos (show (flat l).length ≤ 1000000000000000 by omega), Option.bind_some]
    exact Ev.now _
  · intro i hi ih
    have hw := w64 (i := i) (by omega)
    have hx32 := hwf l[i] (List.getElem_mem hi)
    have hx := hx32
    unfold I32 at hx32
    have e : flat (l.take (i + 1)) = flat (l.take i) ++ decU l[i] := by
      rw [List.take_succ_eq_append_getElem hi, flat_app]
      simp [flat]
    have h1 := flat_len (l.take i) (fun x hx => hwf x (List.mem_of_mem_take hx))
    have h2 := dec_len3 l[i] hx
    rw [List.length_take] at h1
    refine Ev.step (fun k => norm_Normal.l0.eq_2 ..) ?_
    simp only [Int.toNat_natCast] at ih ⊢
    simp only [if_pos (getLt hi), if_pos (show (0 : Int) ≤ (i : Int) by omega), rd_nat hi, ucd_Decompose.f, if_pos hx32, Option.bind_some, if_pos (show (flat (l.take i)).length + (decU l[i]).length < 35184372088832 by omega), hw, ← e]
    exact ih
end Go.Proofs.YthffpkdadffinaaDoor.Oa
namespace Go.Proofs.YthffpkdadffinaaDoor.Ob
set_option linter.unusedVariables false
set_option linter.unusedSimpArgs false
open Go.Proofs.YthffpkdadffinaaDoor.Vd (decU)
open Go.Proofs.YthffpkdadffinaaDoor.Nc (K K_take K_drop srt_le)
open Go.RowKit Go.Proofs.YthffpkdadffinaaDoorW.PrintWords Go.Proofs.YthffpkdadffinaaDoor.Ev0 Go.Proofs.YthffpkdadffinaaDoor.X Go.Proofs.YthffpkdadffinaaDoor.Va Go.Proofs.YthffpkdadffinaaDoor.Vc Go.Proofs.YthffpkdadffinaaDoor.Ve Go.Proofs.YthffpkdadffinaaDoor.Vp0 Go.Proofs.YthffpkdadffinaaDoor.Vu Go.Proofs.YthffpkdadffinaaDoor.Na Go.Proofs.YthffpkdadffinaaDoor.Oa
theorem w64d {a : Nat} (h0 : 0 < a) (h : a < 4611686018427387904) : wrap64 ((a : Int) - 1) = ((a - 1 : Nat) : Int) := by unfold wrap64; omega
section
variable {x0 : List Int} {x5 : Int} {x6 : List Int} {R : List Int} {acc : List Int} {j f : Nat}
end
end Go.Proofs.YthffpkdadffinaaDoor.Ob
namespace Go.Proofs.YthffpkdadffinaaDoor.Cn
set_option linter.unusedVariables false
set_option linter.unusedSimpArgs false
open Go.Proofs.YthffpkdadffinaaDoor.Vd (decU)
open Go.Proofs.YthffpkdadffinaaDoor.Fr (K3 T3)
open Go.RowKit Go.Proofs.YthffpkdadffinaaDoorW.PrintWords Go.Proofs.YthffpkdadffinaaDoor.Ev0 Go.Proofs.YthffpkdadffinaaDoor.X Go.Proofs.YthffpkdadffinaaDoor.Va Go.Proofs.YthffpkdadffinaaDoor.Vp0 Go.Proofs.YthffpkdadffinaaDoor.Vu Go.Proofs.YthffpkdadffinaaDoor.Na Go.Proofs.YthffpkdadffinaaDoor.Oa Go.Proofs.YthffpkdadffinaaDoor.Ob
theorem NormR (w : World) (hG : G w) (A : Option Addr) (n c : Nat) (l : List Int) (hC : K3.C w A n l) (hn : n = l.length) (hc : n ≤ c) (hwf : ∀ x ∈ l, I32 x) (hl : n ≤ 100000000) :
    Calls Tryd.prog 71 #[.slice A n c] w fun e w' => ∃ v, e = .returned v ∧ K3.R T3 w' w.heap.size (fun _ => True) v (nrm l) ∧ Below w.heap.size w w' := by
  subst hn
  obtain ⟨k, hk⟩ := Ev.rounds (normEv l hwf hl)
  exact norm_Normal.calls k A c l _ w hC hc hk hG
end Go.Proofs.YthffpkdadffinaaDoor.Cn
namespace Go.Proofs.YthffpkdadffinaaDoor.Fm
set_option linter.unusedVariables false
set_option linter.unusedSimpArgs false
open Go.RowKit Go.Proofs.YthffpkdadffinaaDoorW.PrintWords Go.Proofs.YthffpkdadffinaaDoor.Hp
structure Th where
  P : (Nat → Prop) → World → Prop
  loc : ∀ {ok w w'}, P ok w → (∀ k, ok k → k < w.heap.size → w'.heap[k]? = w.heap[k]?) → P ok w'
  bnd : ∀ {ok w}, P ok w → P (fun k => ok k ∧ k < w.heap.size) w
def rowT {α : Type} (d : Kd α) (e : Nat) (base : Nat) (v : Value) (xs : List α) : Th :=
  ⟨fun ok w => d.R e w base ok v xs, fun h hm => Kd.R_step h hm, fun h => Kd.R_mono (Kd.R_bound h) (fun _ hk => ⟨hk.1, hk.2.2.1⟩)⟩
def Sep (w0 : World) (L : List Th) (w : World) : Prop :=
  ∃ ok : Nat → Nat → Prop, (∀ (i : Nat) (T : Th), L[i]? = some T → T.P (ok i) w) ∧ (∀ i j b, i ≠ j → ok i b → ¬ ok j b) ∧ (∀ i b, ok i b → w0.heap.size ≤ b ∧ b < w.heap.size) ∧ Below w0.heap.size w0 w
section
variable {w0 w w' : World} {L : List Th} {T T' T2 : Th}
theorem Sep.below (h : Sep w0 L w) : Below w0.heap.size w0 w := by obtain ⟨_, _, _, _, h⟩ := h; exact h
theorem Sep.nil (w0 : World) : Sep w0 [] w0 := ⟨fun _ _ => False, by simp, by simp, by simp, Below.refl _ _⟩
theorem Sep.start (h : Below w0.heap.size w0 w) : Sep w0 [] w := ⟨fun _ _ => False, by simp, by simp, by simp, h⟩
theorem Sep.later (h : Sep w0 L w) (hb : Below w.heap.size w w') : Sep w0 L w' := by
  obtain ⟨ok, h1, h2, h3, h4⟩ := h
  exact ⟨ok, fun i T hT => T.loc (h1 i T hT) (fun k _ hlt => hb.block k hlt), h2, fun i b hb' => ⟨(h3 i b hb').1, Nat.lt_of_lt_of_le (h3 i b hb').2 hb.size⟩, below_then h4 h4.size hb⟩
theorem Sep.one (h : Sep w0 L w) (i : Nat) (T : Th) (hi : L[i]? = some T) : ∃ ok : Nat → Prop, T.P ok w := by
  obtain ⟨ok, h1, _⟩ := h
  exact ⟨ok i, h1 i T hi⟩
theorem Sep.op2 (h : Sep w0 L w) (i : Nat) (T : Th) (hi : L[i]? = some T) :
    ∃ ok : Nat → Prop, T.P ok w ∧ (∀ b, ok b → w0.heap.size ≤ b) ∧ ∀ (w' : World) (T' T2 : Th) (ok' ok2 : Nat → Prop), T'.P ok' w' → T2.P ok2 w' → (∀ b, ok' b → ok b ∨ w.heap.size ≤ b) → (∀ b, ok2 b → w.heap.size ≤ b) → (∀ b, ok' b → ¬ ok2 b) → Chg ok w w' →
      Sep w0 (L.set i T' ++ [T2]) w' := by
  obtain ⟨ok, h1, h2, h3, h4⟩ := h
  refine ⟨ok i, h1 i T hi, fun b hb => (h3 i b hb).1, fun w' T' T2 ok' ok2 p1 p2 hs hs2 hd hc => ⟨fun j b => if j = i then ok' b ∧ b < w'.heap.size else if j = L.length then ok2 b ∧ b < w'.heap.size else ok j b, ?_, ?_, ?_, ?_⟩⟩
  · intro j U hj
    have hil : i < L.length := (List.getElem?_eq_some_iff.1 hi).1
    rw [List.getElem?_append, List.length_set] at hj
    split at hj
    · rename_i hjl
      by_cases e : j = i
      · subst e
        rw [List.getElem?_set_self hil] at hj
        injection hj with hj
        subst hj
        simp only [if_true]
        exact T'.bnd p1
      · rw [List.getElem?_set_ne (Ne.symm e)] at hj
        simp only [if_neg e, if_neg (show ¬ j = L.length by omega)]
        exact U.loc (h1 j U hj) (fun b hb hlt => hc.keep b hlt (fun hb2 => h2 j i b e hb hb2))
    · rename_i hjl
      rcases Nat.lt_or_ge (j - L.length) 1 with h5 | h5
      · have e : j = L.length := by omega
        subst e
        simp at hj
        subst hj
        simp only [if_neg (show ¬ L.length = i by omega), if_true]
        exact T2.bnd p2
      · rw [List.getElem?_eq_none (by simpa using h5)] at hj; cases hj
  · intro j l b hjl hj hl
    have old : ∀ m c, ok m c → c < w.heap.size := fun m c hm => (h3 m c hm).2
    split at hj
    · split at hl
      · omega
      · split at hl
        · exact hd b hj.1 hl.1
        · rcases hs b hj.1 with h | h
          · rename_i ej el _
            exact h2 i l b (Ne.symm el) h hl
          · have := old l b hl; omega
    · rename_i ej
      split at hj
      · split at hl
        · exact hd b hl.1 hj.1
        · rename_i el
          split at hl
          · omega
          · have := hs2 b hj.1; have := old l b hl; omega
      · split at hl
        · rcases hs b hl.1 with h | h
          · exact h2 j i b ej hj h
          · have := old j b hj; omega
        · split at hl
          · have := hs2 b hl.1; have := old j b hj; omega
          · exact h2 j l b hjl hj hl
  · intro j b hj
    split at hj
    · refine ⟨?_, hj.2⟩
      rcases hs b hj.1 with h | h
      · exact (h3 i b h).1
      · have := h4.size; omega
    · split at hj
      · have := h4.size; have := hs2 b hj.1; exact ⟨by omega, hj.2⟩
      · exact ⟨(h3 j b hj).1, Nat.lt_of_lt_of_le (h3 j b hj).2 hc.size⟩
  · exact hc.below_of h4 (fun b hb => (h3 i b hb).1)
theorem Sep.init (h : Sep w0 (L ++ [T]) w) : Sep w0 L w := by
  obtain ⟨ok, h1, h2, h3, h4⟩ := h
  exact ⟨ok, fun i U hU => h1 i U (by rw [List.getElem?_append_left (List.getElem?_eq_some_iff.1 hU).1]; exact hU), h2, h3, h4⟩
def noT : Th := ⟨fun _ _ => True, fun _ _ => trivial, fun _ => trivial⟩
theorem Sep.op (h : Sep w0 L w) (i : Nat) (T : Th) (hi : L[i]? = some T) :
    ∃ ok : Nat → Prop, T.P ok w ∧ (∀ b, ok b → w0.heap.size ≤ b) ∧ ∀ (w' : World) (T' : Th) (ok' : Nat → Prop), T'.P ok' w' → (∀ b, ok' b → ok b ∨ w.heap.size ≤ b) → Chg ok w w' → Sep w0 (L.set i T') w' := by
  obtain ⟨ok, h1, h2, h3⟩ := h.op2 i T hi
  exact ⟨ok, h1, h2, fun w' T' ok' p1 hs hc => (h3 w' T' noT ok' (fun _ => False) p1 trivial hs (fun _ hb => hb.elim) (fun _ _ hb => hb) hc).init⟩
theorem Sep.new (h : Sep w0 L w) (T : Th) {ok : Nat → Prop} (hs : T.P ok w') (hn : ∀ b, ok b → w.heap.size ≤ b) (hb : Below w.heap.size w w') : Sep w0 (L ++ [T]) w' := by
  have hl := h.later hb
  obtain ⟨oks, h1, h2, h3, h4⟩ := h
  obtain ⟨_, _, _, _, h5⟩ := hl
  refine ⟨fun j b => if j = L.length then ok b ∧ b < w'.heap.size else oks j b, ?_, ?_, ?_, h5⟩
  · intro j U hj
    rw [List.getElem?_append] at hj
    split at hj
    · simp only [if_neg (show ¬ j = L.length by omega)]
      exact U.loc (h1 j U hj) (fun b _ hlt => hb.block b hlt)
    · rcases Nat.lt_or_ge (j - L.length) 1 with h6 | h6
      · have e : j = L.length := by omega
        subst e
        simp at hj
        subst hj
        simp only [if_true]
        exact T.bnd hs
      · rw [List.getElem?_eq_none (by simpa using h6)] at hj; cases hj
  · intro j l b hjl hj hl
    split at hj
    · split at hl
      · omega
      · have := hn b hj.1; have := (h3 l b hl).2; omega
    · split at hl
      · have := hn b hl.1; have := (h3 j b hj).2; omega
      · exact h2 j l b hjl hj hl
  · intro j b hj
    split at hj
    · have := h4.size; have := hn b hj.1; exact ⟨by omega, hj.2⟩
    · exact ⟨(h3 j b hj).1, Nat.lt_of_lt_of_le (h3 j b hj).2 hb.size⟩
theorem Sep.row {α : Type} {d : Kd α} {e base : Nat} {v : Value} {xs : List α} (h : Sep w0 L w) (i : Nat) (hi : L[i]? = some (rowT d e base v xs)) :
    ∃ ok : Nat → Prop, d.R e w base ok v xs ∧ (∀ k, w.heap.size ≤ k → ok k) ∧ ∀ (v1 : Value) (w1 : World) (xs1 : List α), d.R e w1 base ok v1 xs1 → w.grownBy w1 v.ownBlock → Sep w0 (L.set i (rowT d e base v1 xs1)) w1 := by
  obtain ⟨ok, h1, h2, h3⟩ := h.op i _ hi
  have h1' : d.R e w base ok v xs := h1
  exact ⟨fun b => ok b ∨ w.heap.size ≤ b, Kd.R_mono h1' (fun _ hk => .inl hk), fun _ hk => .inr hk, fun v1 w1 xs1 hr hg =>
    h3 w1 (rowT d e base v1 xs1) _ hr (fun _ hb => hb) ((Chg.refl ok w).grown hg (fun k hk => .inl (h1'.1 k hk)))⟩
theorem Sep.reads {α : Type} {d : Kd α} {e base : Nat} {v : Value} {xs : List α} (h : Sep w0 L w) (i : Nat) (hi : L[i]? = some (rowT d e base v xs)) : ∃ A c, v = .slice A xs.length c ∧ xs.length ≤ c ∧ d.C w A xs.length xs := by
  obtain ⟨ok, h1⟩ := h.one i _ hi
  exact Kd.R_reads (show d.R e w base ok v xs from h1)
theorem Sep.empty {α : Type} (d : Kd α) (e base : Nat) (h : Sep w0 L w) : Sep w0 (L ++ [rowT d e base (.slice none 0 0) []]) w :=
  h.new (rowT d e base (.slice none 0 0) []) (ok := fun _ => False) (Kd.R_nil d e w base _) (fun _ h => h.elim) (Below.refl _ _)
end
end Go.Proofs.YthffpkdadffinaaDoor.Fm
namespace Go.Proofs.YthffpkdadffinaaDoor.X
open Go.RowKit Go.Proofs.YthffpkdadffinaaDoorW.PrintWords Go.Proofs.YthffpkdadffinaaDoorW.PrintLast Go.Proofs.YthffpkdadffinaaDoorW.PrintMore
attribute [local go_sem] max2_int min2_int max_two min_two max_three min_three max_four min_four   
set_option linter.unusedVariables false
set_option linter.unusedSimpArgs false
def utf_lead.j0 : Nat → Int → Int → Int → Bool → Option (Int × Int × Int × Int)
 | 0, _, _, _, _ => none
 | k + 1, x0, x4, x5, x13 => if x13 = true then (some (0, 0, x4, x5)) else (if x0 < 224 then (some (2, wrap32 (Go.bits .and .u8 x0 31), x4, x5)) else (if x0 < 240 then (if x0 = 224 then (some (3, wrap32 (Go.bits .and .u8 x0 15), 160, x5)) else (if x0 = 237 then (some (3, wrap32 (Go.bits .and .u8 x0 15), x4, 159)) else (some (3, wrap32 (Go.bits .and .u8 x0 15), x4, x5)))) else (if x0 = 240 then (some (4, wrap32 (Go.bits .and .u8 x0 7), 144, x5)) else (if x0 = 244 then (some (4, wrap32 (Go.bits .and .u8 x0 7), x4, 143)) else (some (4, wrap32 (Go.bits .and .u8 x0 7), x4, x5))))))
def utf_lead.f (k : Nat) (a0 : Int) : Option (Int × Int × Int × Int) := if a0 < 128 then (some (1, wrap32 (a0), 128, 191)) else (if a0 < 194 then (utf_lead.j0 k a0 128 191 true) else (utf_lead.j0 k a0 128 191 (decide (a0 > 244))))
theorem utf_lead.mono_l : ∀ k, (∀ y0 y1 y2 y3, LeO (utf_lead.j0 k y0 y1 y2 y3) (utf_lead.j0 (k + 1) y0 y1 y2 y3))
 | 0 => fun _ _ _ _ r h => by simp [utf_lead.j0] at h
 | k + 1 => by
  have ih0 := utf_lead.mono_l k
  ·intro y0 y1 y2 y3
   unfold utf_lead.j0
   repeat' first
   | (with_reducible exact ih0 _ _ _ _)
   | (with_reducible exact LeO.refl _)
   | (with_reducible exact LeO.none _)
   | (with_reducible refine LeO.ite ?_ ?_)
   | (with_reducible refine LeO.bind ?_ (fun _ => ?_))
   | exact ih0 _ _ _ _
   | exact LeO.none _
   | refine LeO.ite ?_ ?_
   | refine LeO.bind ?_ (fun _ => ?_)
theorem utf_lead.mono : ∀ a0 k, LeO (utf_lead.f k a0) (utf_lead.f (k + 1) a0) := by
 intro a0 k
 have ih0 := utf_lead.mono_l k
 unfold utf_lead.f
 repeat' first
   | (with_reducible exact ih0 _ _ _ _)
   | (with_reducible exact LeO.refl _)
   | (with_reducible exact LeO.none _)
   | (with_reducible refine LeO.ite ?_ ?_)
   | (with_reducible refine LeO.bind ?_ (fun _ => ?_))
   | exact ih0 _ _ _ _
   | exact LeO.none _
   | refine LeO.ite ?_ ?_
   | refine LeO.bind ?_ (fun _ => ?_)
set_option maxHeartbeats 8000000 in
set_option maxRecDepth 100000 in
theorem utf_lead.calls (k : Nat) (a0 : Int) (r1 : Int) (r2 : Int) (r3 : Int) (r4 : Int) (w : World) (h : utf_lead.f k a0 = some (r1, r2, r3, r4)) :
  Calls Tryd.prog 97 #[.int .u8 a0] w fun e w' => e = .returned (.tuple #[.int .i64 r1, .int .i32 r2, .int .u8 r3, .int .u8 r4]) ∧ Drawn0 w w' := by
 have H : (if a0 < 128 then (some (1, wrap32 (a0), 128, 191)) else (if a0 < 194 then (utf_lead.j0 k a0 128 191 true) else (utf_lead.j0 k a0 128 191 (decide (a0 > 244))))) = some (r1, r2, r3, r4) := h
 clear h
 by_cases c2 : a0 < 128
 ·rw [if_pos c2] at H
  have c2b0 : decide (a0 < 128) = true := decide_eq_true c2
  clear c2
  simp only [Option.some.injEq, Prod.mk.injEq] at H
  obtain ⟨rfl, rfl, rfl, rfl⟩ := H
  go_enter Tryd.func97, Tryd.ntmps97
  go_wp2
  refine bodyPost_ret (results_list (rs := [.tmp 2, .tmp 3, .tmp 4, .tmp 5]) rfl (by simp) (.tmp (.tmp (.tmp (.tmp .nil))))) rfl ?_
  exact ⟨by first | rfl | (simp; done) | (simp [*]; done), by repeat (first | exact Drawn0.refl _ | apply Drawn0.step)⟩
 ·rw [if_neg c2] at H
  have c2b0 : decide (a0 < 128) = false := decide_eq_false c2
  clear c2
  have HC3 := Aside0.mk H
  clear H
  go_enter Tryd.func97, Tryd.ntmps97
  go_upto_region 4 with (fail)
  go_cut [13] (fun v13 wc => ∃ (kq : Nat) (x13_2 : Bool), v13 = .bool x13_2 ∧ Aside0 (utf_lead.j0 kq a0 128 191 x13_2 = some (r1, r2, r3, r4)) ∧ Aside0 (kq ≤ k) ∧ Drawn0 w wc)
  case first =>
   have H := HC3.out
   clear HC3
   by_cases c4 : a0 < 194
   ·rw [if_pos c4] at H
    have c4b0 : decide (a0 < 194) = true := decide_eq_true c4
    clear c4
    (first | rw [c4b0] | (simp only [i64_w, i32_w]; rw [c4b0]) | skip)
    have H' := Aside0.mk H
    clear H
    go_wp2
    go_meet
    case rel => exact ⟨_, (true), (by first | rfl | (simp; done) | (simp [*]; done)), H', ⟨by first | omega | exact Nat.le_refl _⟩, by repeat (first | exact Drawn0.refl _ | apply Drawn0.step)⟩
   ·rw [if_neg c4] at H
    have c4b0 : decide (a0 < 194) = false := decide_eq_false c4
    clear c4
    (first | rw [c4b0] | (simp only [i64_w, i32_w]; rw [c4b0]) | skip)
    have H' := Aside0.mk H
    clear H
    go_wp2
    go_meet
    case rel => exact ⟨_, (decide (a0 > 244)), (by first | rfl | (simp; done) | (simp [*]; done)), H', ⟨by first | omega | exact Nat.le_refl _⟩, by repeat (first | exact Drawn0.refl _ | apply Drawn0.step)⟩
  case rest =>
   clear HC3
   try clear c2
   try clear c2b0
   try clear p2
   try clear p3
   try clear c4
   try clear c4b0
   obtain ⟨kq, x13_2, rfl, HA, HJ2, ⟨mc2, rfl⟩⟩ := hcut
   cases kq with
   | zero => exact absurd HA.out (by simp [utf_lead.j0])
   | succ kj2 =>
    have H := HA.out
    clear HA
    simp only [utf_lead.j0] at H
    by_cases c5 : x13_2 = true
    ·subst c5
     have H1 : (some (0, 0, 128, 191)) = some (r1, r2, r3, r4) := by rw [if_pos rfl] at H; exact H
     clear H
     have H := H1
     clear H1
     simp only [Option.some.injEq, Prod.mk.injEq] at H
     obtain ⟨rfl, rfl, rfl, rfl⟩ := H
     go_wp2
     refine bodyPost_ret (results_list (rs := [.tmp 2, .tmp 3, .tmp 4, .tmp 5]) rfl (by simp) (.tmp (.tmp (.tmp (.tmp .nil))))) rfl ?_
     exact ⟨by first | rfl | (simp; done) | (simp [*]; done), by repeat (first | exact Drawn0.refl _ | apply Drawn0.step)⟩
    ·replace c5 := Bool.eq_false_iff.mpr c5
     subst c5
     have H1 : (if a0 < 224 then (some (2, wrap32 (Go.bits .and .u8 a0 31), 128, 191)) else (if a0 < 240 then (if a0 = 224 then (some (3, wrap32 (Go.bits .and .u8 a0 15), 160, 191)) else (if a0 = 237 then (some (3, wrap32 (Go.bits .and .u8 a0 15), 128, 159)) else (some (3, wrap32 (Go.bits .and .u8 a0 15), 128, 191)))) else (if a0 = 240 then (some (4, wrap32 (Go.bits .and .u8 a0 7), 144, 191)) else (if a0 = 244 then (some (4, wrap32 (Go.bits .and .u8 a0 7), 128, 143)) else (some (4, wrap32 (Go.bits .and .u8 a0 7), 128, 191)))))) = some (r1, r2, r3, r4) := by rw [if_neg (show ¬ (false = true) by decide)] at H; exact H
     clear H
     have H := H1
     clear H1
     by_cases c6 : a0 < 224
     ·rw [if_pos c6] at H
      have c6b0 : decide (a0 < 224) = true := decide_eq_true c6
      clear c6
      simp only [Option.some.injEq, Prod.mk.injEq] at H
      obtain ⟨rfl, rfl, rfl, rfl⟩ := H
      go_wp2
      refine bodyPost_ret (results_list (rs := [.tmp 2, .tmp 3, .tmp 4, .tmp 5]) rfl (by simp) (.tmp (.tmp (.tmp (.tmp .nil))))) rfl ?_
      exact ⟨by first | rfl | (simp; done) | (simp [*]; done), by repeat (first | exact Drawn0.refl _ | apply Drawn0.step)⟩
     ·rw [if_neg c6] at H
      have c6b0 : decide (a0 < 224) = false := decide_eq_false c6
      clear c6
      by_cases c7 : a0 < 240
      ·rw [if_pos c7] at H
       have c7b0 : decide (a0 < 240) = true := decide_eq_true c7
       clear c7
       by_cases c8 : a0 = 224
       ·rw [if_pos c8] at H
        have c8b0 : (a0 == 224) = true := beq_iff_eq.mpr c8
        have c8b1 : (a0 != 224) = false := bne_eq_false_iff_eq.mpr c8
        clear c8
        simp only [Option.some.injEq, Prod.mk.injEq] at H
        obtain ⟨rfl, rfl, rfl, rfl⟩ := H
        go_wp2
        refine bodyPost_ret (results_list (rs := [.tmp 2, .tmp 3, .tmp 4, .tmp 5]) rfl (by simp) (.tmp (.tmp (.tmp (.tmp .nil))))) rfl ?_
        exact ⟨by first | rfl | (simp; done) | (simp [*]; done), by repeat (first | exact Drawn0.refl _ | apply Drawn0.step)⟩
       ·rw [if_neg c8] at H
        have c8b0 : (a0 == 224) = false := beq_eq_false_iff_ne.mpr c8
        have c8b1 : (a0 != 224) = true := bne_iff_ne.mpr c8
        by_cases c9 : a0 = 237
        ·rw [if_pos c9] at H
         have c9b0 : (a0 == 237) = true := beq_iff_eq.mpr c9
         have c9b1 : (a0 != 237) = false := bne_eq_false_iff_eq.mpr c9
         clear c9
         simp only [Option.some.injEq, Prod.mk.injEq] at H
         obtain ⟨rfl, rfl, rfl, rfl⟩ := H
         go_wp2
         refine bodyPost_ret (results_list (rs := [.tmp 2, .tmp 3, .tmp 4, .tmp 5]) rfl (by simp) (.tmp (.tmp (.tmp (.tmp .nil))))) rfl ?_
         exact ⟨by first | rfl | (simp; done) | (simp [*]; done), by repeat (first | exact Drawn0.refl _ | apply Drawn0.step)⟩
        ·rw [if_neg c9] at H
         have c9b0 : (a0 == 237) = false := beq_eq_false_iff_ne.mpr c9
         have c9b1 : (a0 != 237) = true := bne_iff_ne.mpr c9
         simp only [Option.some.injEq, Prod.mk.injEq] at H
         obtain ⟨rfl, rfl, rfl, rfl⟩ := H
         go_wp2
         refine bodyPost_ret (results_list (rs := [.tmp 2, .tmp 3, .tmp 4, .tmp 5]) rfl (by simp) (.tmp (.tmp (.tmp (.tmp .nil))))) rfl ?_
         exact ⟨by first | rfl | (simp; done) | (simp [*]; done), by repeat (first | exact Drawn0.refl _ | apply Drawn0.step)⟩
      ·rw [if_neg c7] at H
       have c7b0 : decide (a0 < 240) = false := decide_eq_false c7
       clear c7
       by_cases c10 : a0 = 240
       ·rw [if_pos c10] at H
        have c10b0 : (a0 == 240) = true := beq_iff_eq.mpr c10
        have c10b1 : (a0 != 240) = false := bne_eq_false_iff_eq.mpr c10
        clear c10
        simp only [Option.some.injEq, Prod.mk.injEq] at H
        obtain ⟨rfl, rfl, rfl, rfl⟩ := H
        go_wp2
        refine bodyPost_ret (results_list (rs := [.tmp 2, .tmp 3, .tmp 4, .tmp 5]) rfl (by simp) (.tmp (.tmp (.tmp (.tmp .nil))))) rfl ?_
        exact ⟨by first | rfl | (simp; done) | (simp [*]; done), by repeat (first | exact Drawn0.refl _ | apply Drawn0.step)⟩
       ·rw [if_neg c10] at H
        have c10b0 : (a0 == 240) = false := beq_eq_false_iff_ne.mpr c10
        have c10b1 : (a0 != 240) = true := bne_iff_ne.mpr c10
        by_cases c11 : a0 = 244
        ·rw [if_pos c11] at H
         have c11b0 : (a0 == 244) = true := beq_iff_eq.mpr c11
         have c11b1 : (a0 != 244) = false := bne_eq_false_iff_eq.mpr c11
         clear c11
         simp only [Option.some.injEq, Prod.mk.injEq] at H
         obtain ⟨rfl, rfl, rfl, rfl⟩ := H
         go_wp2
         refine bodyPost_ret (results_list (rs := [.tmp 2, .tmp 3, .tmp 4, .tmp 5]) rfl (by simp) (.tmp (.tmp (.tmp (.tmp .nil))))) rfl ?_
         exact ⟨by first | rfl | (simp; done) | (simp [*]; done), by repeat (first | exact Drawn0.refl _ | apply Drawn0.step)⟩
        ·rw [if_neg c11] at H
         have c11b0 : (a0 == 244) = false := beq_eq_false_iff_ne.mpr c11
         have c11b1 : (a0 != 244) = true := bne_iff_ne.mpr c11
         simp only [Option.some.injEq, Prod.mk.injEq] at H
         obtain ⟨rfl, rfl, rfl, rfl⟩ := H
         go_wp2
         refine bodyPost_ret (results_list (rs := [.tmp 2, .tmp 3, .tmp 4, .tmp 5]) rfl (by simp) (.tmp (.tmp (.tmp (.tmp .nil))))) rfl ?_
         exact ⟨by first | rfl | (simp; done) | (simp [*]; done), by repeat (first | exact Drawn0.refl _ | apply Drawn0.step)⟩
end Go.Proofs.YthffpkdadffinaaDoor.X
namespace Go.Proofs.YthffpkdadffinaaDoor.X
open Go.RowKit Go.Proofs.YthffpkdadffinaaDoorW.PrintWords Go.Proofs.YthffpkdadffinaaDoorW.PrintLast Go.Proofs.YthffpkdadffinaaDoorW.PrintMore
attribute [local go_sem] max2_int min2_int max_two min_two max_three min_three max_four min_four   
set_option linter.unusedVariables false
set_option linter.unusedSimpArgs false
def utf_one.l0 : Nat → List Int → Int → Int → Int → Int → Int → Option (Int × Int × Bool)
 | 0, _, _, _, _, _, _ => none
 | k + 1, x0, x2, x5, x6, x7, x8 => if x8 < x5 then (if x8 = (x0.length : Int) then (some (65533, x8, true)) else (if 0 ≤ x8 then (if x8 < (x0.length : Int) then (if (rd x0 x8) < x6 then (some (65533, x8, false)) else (if (rd x0 x8) > x7 then (some (65533, x8, false)) else (utf_one.l0 k x0 (Go.bits .or .i32 (wrap32 (x2 * 64)) (wrap32 (Go.bits .and .u8 (rd x0 x8) 63))) x5 128 191 (wrap64 (x8 + 1))))) else (none)) else (none))) else (some (x2, x5, false))
def utf_one.f (k : Nat) (l0 : List Int) : Option (Int × Int × Bool) := if 0 < (l0.length : Int) then ((utf_lead.f k (rd l0 0)).bind fun bt122 => (if bt122.1 = 0 then (some (65533, 1, false)) else (utf_one.l0 k l0 bt122.2.1 bt122.1 bt122.2.2.1 bt122.2.2.2 1))) else (none)
theorem utf_one.mono_l : ∀ k, (∀ y0 y1 y2 y3 y4 y5, LeO (utf_one.l0 k y0 y1 y2 y3 y4 y5) (utf_one.l0 (k + 1) y0 y1 y2 y3 y4 y5))
 | 0 => fun _ _ _ _ _ _ r h => by simp [utf_one.l0] at h
 | k + 1 => by
  have ih0 := utf_one.mono_l k
  ·intro y0 y1 y2 y3 y4 y5
   unfold utf_one.l0
   repeat' first
   | (with_reducible exact ih0 _ _ _ _ _ _)
   | (with_reducible exact utf_lead.mono _ _)
   | (with_reducible exact LeO.refl _)
   | (with_reducible exact LeO.none _)
   | (with_reducible refine LeO.ite ?_ ?_)
   | (with_reducible refine LeO.bind ?_ (fun _ => ?_))
   | exact ih0 _ _ _ _ _ _
   | exact utf_lead.mono _ _
   | exact LeO.none _
   | refine LeO.ite ?_ ?_
   | refine LeO.bind ?_ (fun _ => ?_)
theorem utf_one.mono : ∀ a0 k, LeO (utf_one.f k a0) (utf_one.f (k + 1) a0) := by
 intro a0 k
 have ih0 := utf_one.mono_l k
 unfold utf_one.f
 repeat' first
   | (with_reducible exact ih0 _ _ _ _ _ _)
   | (with_reducible exact utf_lead.mono _ _)
   | (with_reducible exact LeO.refl _)
   | (with_reducible exact LeO.none _)
   | (with_reducible refine LeO.ite ?_ ?_)
   | (with_reducible refine LeO.bind ?_ (fun _ => ?_))
   | exact ih0 _ _ _ _ _ _
   | exact utf_lead.mono _ _
   | exact LeO.none _
   | refine LeO.ite ?_ ?_
   | refine LeO.bind ?_ (fun _ => ?_)
set_option maxHeartbeats 8000000 in
set_option maxRecDepth 100000 in
theorem utf_one.calls (k : Nat) (A0 : Option Addr) (c0 : Nat) (l0 : List Int) (r1 : Int) (r2 : Int) (r3 : Bool) (w : World) (hr0 : Kd.C (Kd.int .u8) w A0 l0.length l0) (hc0 : l0.length ≤ c0) (h : utf_one.f k l0 = some (r1, r2, r3)) :
  Calls Tryd.prog 81 #[.slice A0 l0.length c0] w fun e w' => e = .returned (.tuple #[.int .i32 r1, .int .i64 r2, .bool r3]) ∧ Drawn0 w w' := by
 have HR0 := Aside0.mk hr0
 have HC0 := Aside0.mk hc0
 clear hr0 hc0
 have H : (if 0 < (l0.length : Int) then ((utf_lead.f k (rd l0 0)).bind fun bt122 => (if bt122.1 = 0 then (some (65533, 1, false)) else (utf_one.l0 k l0 bt122.2.1 bt122.1 bt122.2.2.1 bt122.2.2.2 1))) else (none)) = some (r1, r2, r3) := h
 clear h
 by_cases c2 : 0 < (l0.length : Int)
 ·rw [if_pos c2] at H
  have c2b0 : decide (0 < (l0.length : Int)) = true := decide_eq_true c2
  have c2b1 : decide (0 < l0.length) = true := decide_eq_true (by omega)
  clear c2
  replace H := Option.bind_eq_some_iff.mp H
  obtain ⟨⟨t122, t123, t124, t125⟩, A30, H⟩ := H
  replace H : (if t122 = 0 then (some (65533, 1, false)) else (utf_one.l0 k l0 t123 t122 t124 t125 1)) = some (r1, r2, r3) := H
  have A3 := Aside0.mk A30
  clear A30
  by_cases c4 : t122 = 0
  ·rw [if_pos c4] at H
   have c4b0 : (t122 == 0) = true := beq_iff_eq.mpr c4
   have c4b1 : (t122 != 0) = false := bne_eq_false_iff_eq.mpr c4
   clear c4
   simp only [Option.some.injEq, Prod.mk.injEq] at H
   obtain ⟨rfl, rfl, rfl⟩ := H
   have p121 : 0 ≤ (0 : Int) := (by omega)
   have q121 : 0 < (l0.length : Int) := of_decide_eq_true (by first | (with_reducible assumption) | assumption)
   obtain ⟨ad121, e121, hx121_0⟩ := Kd.at_int HR0.out 0 p121 q121
   cases e121
   have qi121 : (0 < l0.length) = True := eq_true (by omega)
   (try rw [show ((0 : Int)).toNat = 0 from rfl] at hx121_0)
   (try rw [Addr.add_zero'] at hx121_0)
   replace p121 := eq_true p121
   replace q121 := eq_true q121
   go_enter Tryd.func81, Tryd.ntmps81
   go_wp2_with (first | ((with_reducible refine gate_callee (f := 97) rfl ?_); refine goesL_ (some 13) rfl rfl Tryd.func97 (by kernel_rfl) rfl #[.int .u8 (rd l0 0)] rfl (by (try simp only [List.map_toArray, List.map_cons, List.map_nil]); first | done | rfl | (simp only [List.length_drop, List.length_take]; rfl)) ?_; (with_reducible refine (utf_lead.calls k (rd l0 0) t122 t123 t124 t125 _ A3.out).mono ?_); rintro e w' ⟨rfl, ⟨nd, rfl⟩⟩; refine ⟨_, rfl, ?_⟩))
   go_ret3
   exact ⟨by first | rfl | (simp; done) | (simp [*]; done), by repeat (first | exact Drawn0.refl _ | apply Drawn0.step)⟩
  ·rw [if_neg c4] at H
   have c4b0 : (t122 == 0) = false := beq_eq_false_iff_ne.mpr c4
   have c4b1 : (t122 != 0) = true := bne_iff_ne.mpr c4
   have H' := Aside0.mk H
   clear H
   have p121 : 0 ≤ (0 : Int) := (by omega)
   have q121 : 0 < (l0.length : Int) := of_decide_eq_true (by first | (with_reducible assumption) | assumption)
   obtain ⟨ad121, e121, hx121_0⟩ := Kd.at_int HR0.out 0 p121 q121
   cases e121
   have qi121 : (0 < l0.length) = True := eq_true (by omega)
   (try rw [show ((0 : Int)).toNat = 0 from rfl] at hx121_0)
   (try rw [Addr.add_zero'] at hx121_0)
   replace p121 := eq_true p121
   replace q121 := eq_true q121
   go_enter Tryd.func81, Tryd.ntmps81
   go_wp2_with (first | ((with_reducible refine gate_callee (f := 97) rfl ?_); refine goesL_ (some 13) rfl rfl Tryd.func97 (by kernel_rfl) rfl #[.int .u8 (rd l0 0)] rfl (by (try simp only [List.map_toArray, List.map_cons, List.map_nil]); first | done | rfl | (simp only [List.length_drop, List.length_take]; rfl)) ?_; (with_reducible refine (utf_lead.calls k (rd l0 0) t122 t123 t124 t125 _ A3.out).mono ?_); rintro e w' ⟨rfl, ⟨nd, rfl⟩⟩; refine ⟨_, rfl, ?_⟩))
   go_loopg [2, 6, 7, 8] k (fun kq v2 v6 v7 v8 w' => ∃ (x2_1 : Int) (x6_1 : Int) (x7_1 : Int) (x8_1 : Int), v2 = .int .i32 x2_1 ∧ v6 = .int .u8 x6_1 ∧ v7 = .int .u8 x7_1 ∧ v8 = .int .i64 x8_1 ∧ Aside0 (utf_one.l0 kq l0 x2_1 t122 x6_1 x7_1 x8_1 = some (r1, r2, r3)) ∧ Aside0 (kq ≤ k) ∧ Drawn0 w w')
   case atStart => exact ⟨(t123), (t124), (t125), (1), (by first | rfl | (simp; done) | (simp [*]; done)), (by first | rfl | (simp; done) | (simp [*]; done)), (by first | rfl | (simp; done) | (simp [*]; done)), (by first | rfl | (simp; done) | (simp [*]; done)), H', ⟨Nat.le_refl _⟩, by repeat (first | exact Drawn0.refl _ | apply Drawn0.step)⟩
   case round =>
    clear H'
    try clear p1
    try clear q1
    try clear hx1
    try clear qi1
    try clear c2
    try clear c2b0
    try clear c2b1
    try clear p2
    try clear c4
    try clear c4b0
    try clear c4b1
    try clear hx121_0
    try clear p121
    try clear q121
    obtain ⟨x2_1, x6_1, x7_1, x8_1, rfl, rfl, rfl, rfl, HA, HK1, ⟨m1, rfl⟩⟩ := hrel
    cases gk with
    | zero => exact absurd HA.out (by simp [utf_one.l0])
    | succ k1 =>
     have H := HA.out
     clear HA
     simp only [utf_one.l0] at H
     by_cases c5 : x8_1 < t122
     ·rw [if_pos c5] at H
      have c5b0 : decide (x8_1 < t122) = true := decide_eq_true c5
      clear c5
      by_cases c6 : x8_1 = (l0.length : Int)
      ·rw [if_pos c6] at H
       have c6b0 : (x8_1 == (l0.length : Int)) = true := beq_iff_eq.mpr c6
       have c6b1 : (x8_1 != (l0.length : Int)) = false := bne_eq_false_iff_eq.mpr c6
       clear c6
       simp only [Option.some.injEq, Prod.mk.injEq] at H
       obtain ⟨rfl, rfl, rfl⟩ := H
       go_wp2
       go_ret3
       exact ⟨by first | rfl | (simp; done) | (simp [*]; done), by repeat (first | exact Drawn0.refl _ | apply Drawn0.step)⟩
      ·rw [if_neg c6] at H
       have c6b0 : (x8_1 == (l0.length : Int)) = false := beq_eq_false_iff_ne.mpr c6
       have c6b1 : (x8_1 != (l0.length : Int)) = true := bne_iff_ne.mpr c6
       by_cases c7 : 0 ≤ x8_1
       ·rw [if_pos c7] at H
        have c7b0 : decide (0 ≤ x8_1) = true := decide_eq_true c7
        clear c7
        by_cases c8 : x8_1 < (l0.length : Int)
        ·rw [if_pos c8] at H
         have c8b0 : decide (x8_1 < (l0.length : Int)) = true := decide_eq_true c8
         clear c8
         by_cases c9 : (rd l0 x8_1) < x6_1
         ·rw [if_pos c9] at H
          have c9b0 : decide ((rd l0 x8_1) < x6_1) = true := decide_eq_true c9
          clear c9
          simp only [Option.some.injEq, Prod.mk.injEq] at H
          obtain ⟨rfl, rfl, rfl⟩ := H
          have p126 : 0 ≤ (x8_1 : Int) := of_decide_eq_true (by first | (with_reducible assumption) | assumption)
          have q126 : x8_1 < (l0.length : Int) := of_decide_eq_true (by first | (with_reducible assumption) | assumption)
          obtain ⟨ad126, e126, hx126_0⟩ := Kd.at_int HR0.out x8_1 p126 q126
          obtain rfl : ad121 = ad126 := (by injection e126)
          replace p126 := eq_true p126
          replace q126 := eq_true q126
          go_wp2
          go_ret3
          exact ⟨by first | rfl | (simp; done) | (simp [*]; done), by repeat (first | exact Drawn0.refl _ | apply Drawn0.step)⟩
         ·rw [if_neg c9] at H
          have c9b0 : decide ((rd l0 x8_1) < x6_1) = false := decide_eq_false c9
          clear c9
          by_cases c10 : (rd l0 x8_1) > x7_1
          ·rw [if_pos c10] at H
           have c10b0 : decide (x7_1 < (rd l0 x8_1)) = true := decide_eq_true c10
           clear c10
           simp only [Option.some.injEq, Prod.mk.injEq] at H
           obtain ⟨rfl, rfl, rfl⟩ := H
           have p126 : 0 ≤ (x8_1 : Int) := of_decide_eq_true (by first | (with_reducible assumption) | assumption)
           have q126 : x8_1 < (l0.length : Int) := of_decide_eq_true (by first | (with_reducible assumption) | assumption)
           obtain ⟨ad126, e126, hx126_0⟩ := Kd.at_int HR0.out x8_1 p126 q126
           obtain rfl : ad121 = ad126 := (by injection e126)
           replace p126 := eq_true p126
           replace q126 := eq_true q126
           have p127 : 0 ≤ (x8_1 : Int) := of_decide_eq_true (by first | (with_reducible assumption) | assumption)
           have q127 : x8_1 < (l0.length : Int) := of_decide_eq_true (by first | (with_reducible assumption) | assumption)
           obtain ⟨ad127, e127, hx127_0⟩ := Kd.at_int HR0.out x8_1 p127 q127
           obtain rfl : ad121 = ad127 := (by injection e127)
           replace p127 := eq_true p127
           replace q127 := eq_true q127
           go_wp2
           go_ret3
           exact ⟨by first | rfl | (simp; done) | (simp [*]; done), by repeat (first | exact Drawn0.refl _ | apply Drawn0.step)⟩
          ·rw [if_neg c10] at H
           have c10b0 : decide (x7_1 < (rd l0 x8_1)) = false := decide_eq_false c10
           clear c10
           have H' := Aside0.mk H
           clear H
           have p126 : 0 ≤ (x8_1 : Int) := of_decide_eq_true (by first | (with_reducible assumption) | assumption)
           have q126 : x8_1 < (l0.length : Int) := of_decide_eq_true (by first | (with_reducible assumption) | assumption)
           obtain ⟨ad126, e126, hx126_0⟩ := Kd.at_int HR0.out x8_1 p126 q126
           obtain rfl : ad121 = ad126 := (by injection e126)
           replace p126 := eq_true p126
           replace q126 := eq_true q126
           have p127 : 0 ≤ (x8_1 : Int) := of_decide_eq_true (by first | (with_reducible assumption) | assumption)
           have q127 : x8_1 < (l0.length : Int) := of_decide_eq_true (by first | (with_reducible assumption) | assumption)
           obtain ⟨ad127, e127, hx127_0⟩ := Kd.at_int HR0.out x8_1 p127 q127
           obtain rfl : ad121 = ad127 := (by injection e127)
           replace p127 := eq_true p127
           replace q127 := eq_true q127
           have p128 : 0 ≤ (x8_1 : Int) := of_decide_eq_true (by first | (with_reducible assumption) | assumption)
           have q128 : x8_1 < (l0.length : Int) := of_decide_eq_true (by first | (with_reducible assumption) | assumption)
           obtain ⟨ad128, e128, hx128_0⟩ := Kd.at_int HR0.out x8_1 p128 q128
           obtain rfl : ad121 = ad128 := (by injection e128)
           replace p128 := eq_true p128
           replace q128 := eq_true q128
           go_wp2
           go_roundg k1
           case measure => have := HK1.out; omega
           case rel => exact ⟨(Go.bits .or .i32 (wrap32 (x2_1 * 64)) (wrap32 (Go.bits .and .u8 (rd l0 x8_1) 63))), (128), (191), (wrap64 (x8_1 + 1)), (by first | rfl | (simp; done) | (simp [*]; done)), (by first | rfl | (simp; done) | (simp [*]; done)), (by first | rfl | (simp; done) | (simp [*]; done)), (by first | rfl | (simp; done) | (simp [*]; done)), H', ⟨by have := HK1.out; omega⟩, by repeat (first | exact Drawn0.refl _ | apply Drawn0.step)⟩
        ·rw [if_neg c8] at H
         exact absurd H (by simp)
       ·rw [if_neg c7] at H
        exact absurd H (by simp)
     ·rw [if_neg c5] at H
      have c5b0 : decide (x8_1 < t122) = false := decide_eq_false c5
      clear c5
      simp only [Option.some.injEq, Prod.mk.injEq] at H
      obtain ⟨rfl, rfl, rfl⟩ := H
      go_wp2
      go_ret3
      exact ⟨by first | rfl | (simp; done) | (simp [*]; done), by repeat (first | exact Drawn0.refl _ | apply Drawn0.step)⟩
 ·rw [if_neg c2] at H
  exact absurd H (by simp)
end Go.Proofs.YthffpkdadffinaaDoor.X
namespace Go.Proofs.YthffpkdadffinaaDoor.X
open Go.RowKit Go.Proofs.YthffpkdadffinaaDoorW.PrintWords Go.Proofs.YthffpkdadffinaaDoorW.PrintLast Go.Proofs.YthffpkdadffinaaDoorW.PrintMore
attribute [local go_sem] max2_int min2_int max_two min_two max_three min_three max_four min_four   
set_option linter.unusedVariables false
set_option linter.unusedSimpArgs false
mutual
def tremaref01_At.j1 : Nat → List Int → Int → List Int → Int → Option (Int × Int × Bool)
 | 0, _, _, _, _ => none
 | k + 1, x0, x1, x7, x9 => if x9 ≤ (wrap64 ((x7.length : Int) / 2)) then (some (65533, x9, ((wrap64 (x1 + x9)) == (x0.length : Int)))) else (if x9 = 1 then (if 0 ≤ x1 then (if x1 < (x0.length : Int) then (some (wrap32 (rd x0 x1), 1, false)) else (none)) else (none)) else (if 0 ≤ x1 then (if x1 < (x0.length : Int) then (if 0 ≤ (wrap64 (7 - x9)) then (if (shl .i32 1 (wrap64 (7 - x9))) = 0 then (none) else (tremaref01_At.l1 k x0 x1 x9 (Int.tmod (wrap32 (rd x0 x1)) (shl .i32 1 (wrap64 (7 - x9)))) 1)) else (none)) else (none)) else (none)))
def tremaref01_At.l1 : Nat → List Int → Int → Int → Int → Int → Option (Int × Int × Bool)
 | 0, _, _, _, _, _ => none
 | k + 1, x0, x1, x9, x10, x11 => if x11 < x9 then (if 0 ≤ (wrap64 (x1 + x11)) then (if (wrap64 (x1 + x11)) < (x0.length : Int) then (tremaref01_At.l1 k x0 x1 x9 (wrap32 ((wrap32 (x10 * 64)) + (Int.tmod (wrap32 (rd x0 (wrap64 (x1 + x11)))) 64))) (wrap64 (x11 + 1))) else (none)) else (none)) else (some (x10, x9, false))
def tremaref01_At.l0 : Nat → List Int → Int → List Int → Int → Option (Int × Int × Bool)
 | 0, _, _, _, _ => none
 | k + 1, x0, x1, x7, x9 => if x9 ≤ (wrap64 ((x7.length : Int) / 2)) then (if (wrap64 (x1 + x9)) < (x0.length : Int) then (if 0 ≤ (wrap64 (x1 + x9)) then (if 0 ≤ (wrap64 ((wrap64 (2 * x9)) - 2)) then (if (wrap64 ((wrap64 (2 * x9)) - 2)) < (x7.length : Int) then (if (rd x0 (wrap64 (x1 + x9))) ≥ (rd x7 (wrap64 ((wrap64 (2 * x9)) - 2))) then (if 0 ≤ (wrap64 ((wrap64 (2 * x9)) - 1)) then (if (wrap64 ((wrap64 (2 * x9)) - 1)) < (x7.length : Int) then (if (rd x0 (wrap64 (x1 + x9))) ≤ (rd x7 (wrap64 ((wrap64 (2 * x9)) - 1))) then (tremaref01_At.l0 k x0 x1 x7 (wrap64 (x9 + 1))) else (tremaref01_At.j1 k x0 x1 x7 x9)) else (none)) else (none)) else (tremaref01_At.j1 k x0 x1 x7 x9)) else (none)) else (none)) else (none)) else (tremaref01_At.j1 k x0 x1 x7 x9)) else (tremaref01_At.j1 k x0 x1 x7 x9)
end
end Go.Proofs.YthffpkdadffinaaDoor.X
namespace Go.Proofs.YthffpkdadffinaaDoor.Ux
set_option linter.unusedVariables false
set_option linter.unusedSimpArgs false
open Go.RowKit Go.Proofs.YthffpkdadffinaaDoorW.PrintWords Go.Proofs.YthffpkdadffinaaDoor.Hp Go.Proofs.YthffpkdadffinaaDoor.X
def bnd (c : Int) : Option (List (Int × Int)) :=
  if c < 128 then some []
  else if c < 194 ∨ 244 < c then none
  else if c < 224 then some [(128, 191)]
  else if c < 240 then some [(if c = 224 then 160 else 128, if c = 237 then 159 else 191), (128, 191)]
  else some [(if c = 240 then 144 else 128, if c = 244 then 143 else 191), (128, 191), (128, 191)]
def st (c : Int) : Int := if c < 128 then c else if c < 224 then c % 32 else if c < 240 then c % 16 else c % 8
def cont : List (Int × Int) → List Int → Int → Int → Int × Int × Bool
  | [], _, r, i => (r, i, false)
  | _ :: _, [], _, i => (65533, i, true)
  | (lo, hi) :: bs, x :: t, r, i => if x < lo ∨ hi < x then (65533, i, false) else cont bs t (r * 64 + x % 64) (i + 1)
def one1 (c : Int) (t : List Int) : Int × Int × Bool :=
  match bnd c with
  | none => (65533, 1, false)
  | some bs => cont bs t (st c) 1
def Bytes (l : List Int) : Prop := ∀ x, x ∈ l → 0 ≤ x ∧ x ≤ 255
theorem cont_width : ∀ (bs : List (Int × Int)) (t : List Int) (r i : Int), i ≤ (cont bs t r i).2.1 ∧ (cont bs t r i).2.1 ≤ i + bs.length ∧ (cont bs t r i).2.1 ≤ i + t.length
  | [], t, r, i => by simp [cont]; omega
  | b :: bs, [], r, i => by simp [cont]; omega
  | (lo, hi) :: bs, x :: t, r, i => by
    simp only [cont]
    split
    · simp; omega
    · have := cont_width bs t (r * 64 + x % 64) (i + 1)
      simp only [List.length_cons]
      omega
theorem bnd_len {c : Int} {bs : List (Int × Int)} (h : bnd c = some bs) : bs.length ≤ 3 := by
  unfold bnd at h
  split at h
  · cases h; decide
  · split at h
    · cases h
    · split at h
      · cases h; simp
      · split at h
        · cases h; simp
        · cases h; simp
theorem one1_width (c : Int) (t : List Int) : 1 ≤ (one1 c t).2.1 ∧ (one1 c t).2.1 ≤ 4 ∧ (one1 c t).2.1 ≤ 1 + t.length := by
  unfold one1
  cases h : bnd c with
  | none => simp; omega
  | some bs =>
    have h1 := cont_width bs t (st c) 1
    have h2 := bnd_len h
    simp only
    omega
theorem rd_at (l : List Int) (i : Nat) (h : i < l.length) : rd l (i : Int) = l[i] := by simp [rd, List.getD_eq_getElem?_getD, h]
theorem step_r (r x : Int) (h0 : 0 ≤ r) (hr : (r + 1) * 64 ≤ 2097152) (hx : 0 ≤ x ∧ x ≤ 255) : bits .or .i32 (wrap32 (r * 64)) (wrap32 (bits .and .u8 x 63)) = r * 64 + x % 64 := by
  have ea : wrap32 (r * 64) = r * 64 := by unfold wrap32; omega
  have eb : wrap32 (bits .and .u8 x 63) = x % 64 := by rw [u8_and63 x hx.1 (by omega)]; unfold wrap32; omega
  rw [ea, eb]
  exact i32_or6 (r * 64) (x % 64) (by omega) (by omega) (by omega) (by omega) (by omega)
theorem step_p {r x : Int} {p : Nat} (h0 : 0 ≤ r) (hp : 1 ≤ p) (hr : (r + 1) * (64 * p : Nat) ≤ 2097152) : (r + 1) * 64 ≤ 2097152 ∧ (r * 64 + x % 64 + 1) * (p : Int) ≤ 2097152 := by
  have e : ((64 * p : Nat) : Int) = 64 * (p : Int) := by push_cast; rfl
  rw [e, ← Int.mul_assoc] at hr
  have h1 : (r + 1) * 64 * 1 ≤ (r + 1) * 64 * (p : Int) := Int.mul_le_mul_of_nonneg_left (by omega) (by omega)
  have h2 : (r * 64 + x % 64 + 1) * (p : Int) ≤ (r + 1) * 64 * (p : Int) := Int.mul_le_mul_of_nonneg_right (by omega) (by omega)
  exact ⟨by omega, Int.le_trans h2 hr⟩
theorem loop_cont (l : List Int) (hb : Bytes l) (hl : l.length ≤ 140737488355328) : ∀ (bs : List (Int × Int)) (k i : Nat) (r lo hi : Int), (∀ b, b ∈ bs.tail → b = (128, 191)) → (∀ b, bs.head? = some b → b = (lo, hi)) → bs.length < k → 0 ≤ r → (r + 1) * (64 ^ bs.length : Nat) ≤ 2097152 → i ≤ l.length →
    utf_one.l0 k l r ((i : Int) + bs.length) lo hi i = some (cont bs (l.drop i) r i)
  | [], k, i, r, lo, hi, _, _, hk, _, _, _ => by
    obtain ⟨k, rfl⟩ : ∃ m, k = m + 1 := ⟨k - 1, by omega⟩
    simp only [utf_one.l0, List.length_nil]
    rw [if_neg (by omega)]
    simp [cont]
  | (lo', hi') :: bs, k, i, r, lo, hi, ht, hh, hk, h0, hr, hi1 => by
    obtain ⟨k, rfl⟩ : ∃ m, k = m + 1 := ⟨k - 1, by omega⟩
    have e := hh _ rfl
    injection e with e1 e2
    subst e1
    subst e2
    simp only [List.length_cons] at hk hr ⊢
    simp only [utf_one.l0]
    rw [if_pos (by omega)]
    by_cases he : i = l.length
    · rw [if_pos (by omega), List.drop_eq_nil_of_le (by omega)]
      simp [cont]
    · have hlt : i < l.length := by omega
      rw [if_neg (by omega), if_pos (by omega), if_pos (by omega), rd_at l i hlt, List.drop_eq_getElem_cons hlt]
      have hx := hb l[i] (List.getElem_mem hlt)
      obtain ⟨x, hxe⟩ : ∃ x, x = l[i] := ⟨_, rfl⟩
      rw [← hxe] at hx ⊢
      simp only [cont]
      by_cases h1 : x < lo'
      · rw [if_pos h1, if_pos (.inl h1)]
      · rw [if_neg h1]
        by_cases h2 : x > hi'
        · rw [if_pos h2, if_pos (.inr h2)]
        · rw [if_neg h2, if_neg (by omega)]
          have hp := step_p (x := x) h0 (Nat.one_le_pow bs.length 64 (by omega)) (by rw [Nat.pow_succ, Nat.mul_comm] at hr; exact hr)
          have ew : wrap64 ((i : Int) + 1) = ((i + 1 : Nat) : Int) := by clear hr hp; unfold wrap64; omega
          have ei : ((i : Int) + ((bs.length + 1 : Nat) : Int)) = (((i + 1 : Nat) : Int) + (bs.length : Int)) := by clear hr hp; omega
          rw [step_r r x h0 hp.1 hx, ew, ei]
          have h0' : 0 ≤ r * 64 + x % 64 := by clear hr hp; omega
          have ih := loop_cont l hb hl bs k (i + 1) (r * 64 + x % 64) 128 191 (fun b hb => ht b (List.mem_of_mem_tail hb)) (fun b hb2 => ht b (List.mem_of_mem_head? hb2)) (by clear hr hp; omega) h0' hp.2 (by clear hr hp; omega)
          rw [ih]
          push_cast
          rfl
theorem lead_some (c : Int) (h : 0 ≤ c ∧ c ≤ 255) : ∃ lo hi, utf_lead.f 8 c = some ((match bnd c with | none => 0 | some bs => (bs.length : Int) + 1), (match bnd c with | none => 0 | some _ => st c), lo, hi) ∧ ∀ b, (bnd c).bind List.head? = some b → b = (lo, hi) := by
  unfold utf_lead.f bnd st
  by_cases h1 : c < 128
  · simp only [if_pos h1]
    refine ⟨128, 191, ?_, by simp⟩
    have : wrap32 c = c := by unfold wrap32; omega
    simp [this]
  · simp only [if_neg h1]
    by_cases h2 : c < 194
    · simp only [if_pos h2, if_pos (show c < 194 ∨ 244 < c from .inl h2), utf_lead.j0, if_true]
      exact ⟨_, _, rfl, by simp⟩
    · simp only [if_neg h2]
      by_cases h3 : c > 244
      · simp only [if_pos (show c < 194 ∨ 244 < c from .inr h3), decide_eq_true h3, utf_lead.j0, if_true]
        exact ⟨_, _, rfl, by simp⟩
      · simp only [if_neg (show ¬ (c < 194 ∨ 244 < c) by omega), decide_eq_false h3, utf_lead.j0, Bool.false_eq_true, if_false]
        have e31 : wrap32 (bits .and .u8 c 31) = c % 32 := by rw [u8_and31 c h.1 (by omega)]; unfold wrap32; omega
        have e15 : wrap32 (bits .and .u8 c 15) = c % 16 := by rw [u8_and15 c h.1 (by omega)]; unfold wrap32; omega
        have e7 : wrap32 (bits .and .u8 c 7) = c % 8 := by rw [u8_and7 c h.1 (by omega)]; unfold wrap32; omega
        rw [e31, e15, e7]
        by_cases h4 : c < 224
        · simp only [if_pos h4]
          exact ⟨_, _, rfl, by simp⟩
        · simp only [if_neg h4]
          by_cases h5 : c < 240
          · simp only [if_pos h5]
            by_cases h6 : c = 224
            · simp only [if_pos h6]
              exact ⟨_, _, rfl, by subst h6; simp⟩
            · simp only [if_neg h6]
              by_cases h7 : c = 237
              · simp only [if_pos h7]
                exact ⟨_, _, rfl, by subst h7; simp⟩
              · simp only [if_neg h7]
                exact ⟨_, _, rfl, by simp⟩
          · simp only [if_neg h5]
            by_cases h6 : c = 240
            · simp only [if_pos h6]
              exact ⟨_, _, rfl, by subst h6; simp⟩
            · simp only [if_neg h6]
              by_cases h7 : c = 244
              · simp only [if_pos h7]
                exact ⟨_, _, rfl, by subst h7; simp⟩
              · simp only [if_neg h7]
                exact ⟨_, _, rfl, by simp⟩
theorem bnd_tail {c : Int} {bs : List (Int × Int)} (h : bnd c = some bs) : ∀ b, b ∈ bs.tail → b = (128, 191) := by
  unfold bnd at h
  split at h
  · cases h; simp
  · split at h
    · cases h
    · split at h
      · cases h; simp
      · split at h
        · cases h; simp
        · cases h; simp
theorem st_bound {c : Int} {bs : List (Int × Int)} (hc : 0 ≤ c ∧ c ≤ 255) (h : bnd c = some bs) : 0 ≤ st c ∧ (st c + 1) * (64 ^ bs.length : Nat) ≤ 2097152 := by
  unfold bnd at h
  unfold st
  split at h
  · rename_i h1; cases h; rw [if_pos h1]; simp; omega
  · rename_i h1
    rw [if_neg h1]
    split at h
    · cases h
    · split at h
      · rename_i h2; cases h; rw [if_pos h2]; simp; omega
      · rename_i h2
        rw [if_neg h2]
        split at h
        · rename_i h3; cases h; rw [if_pos h3]; simp; omega
        · rename_i h3; cases h; rw [if_neg h3]; simp; omega
theorem one_pure (c : Int) (t : List Int) (hb : Bytes (c :: t)) (hl : (c :: t).length ≤ 140737488355328) : utf_one.f 8 (c :: t) = some (one1 c t) := by
  have hc := hb c List.mem_cons_self
  obtain ⟨lo, hi, hlead, hhead⟩ := lead_some c hc
  unfold utf_one.f
  rw [if_pos (by simp), show rd (c :: t) 0 = c from rfl, hlead]
  simp only [Option.bind_some, one1]
  cases h : bnd c with
  | none => simp
  | some bs =>
    simp only
    rw [if_neg (by omega)]
    have := loop_cont (c :: t) hb hl bs 8 1 (st c) lo hi (bnd_tail h) (fun b hb2 => hhead b (by rw [h]; exact hb2)) (by have := bnd_len h; omega) (st_bound hc h).1 (st_bound hc h).2 (by simp)
    rw [show (bs.length : Int) + 1 = ((1 : Nat) : Int) + bs.length by omega]
    simpa using this
end Go.Proofs.YthffpkdadffinaaDoor.Ux
namespace Go.Proofs.YthffpkdadffinaaDoor.Ux
set_option linter.unusedVariables false
set_option linter.unusedSimpArgs false
open Go.RowKit Go.Proofs.YthffpkdadffinaaDoorW.PrintWords Go.Proofs.YthffpkdadffinaaDoor.Hp Go.Proofs.YthffpkdadffinaaDoor.X
def flat : List (Int × Int) → List Int
  | [] => []
  | (a, b) :: l => a :: b :: flat l
theorem flat_len : ∀ bs, (flat bs).length = 2 * bs.length
  | [] => rfl
  | (a, b) :: l => by simp [flat, flat_len l]; omega
def fold (r : Int) (l : List Int) : Int := l.foldl (fun r x => r * 64 + x % 64) r
theorem step_r2 (r x : Int) (h0 : 0 ≤ r) (hr : (r + 1) * 64 ≤ 2097152) (hx : 0 ≤ x ∧ x ≤ 255) : wrap32 ((wrap32 (r * 64)) + (Int.tmod (wrap32 x) 64)) = r * 64 + x % 64 := by
  have e1 : wrap32 (r * 64) = r * 64 := by unfold wrap32; omega
  have e2 : wrap32 x = x := by unfold wrap32; omega
  rw [e1, e2, Int.tmod_eq_emod_of_nonneg hx.1]
  unfold wrap32
  omega
theorem l1_step (l : List Int) (hl : l.length ≤ 140737488355328) (at_ n j k : Nat) (r : Int) (h1 : j < n) (hlt : at_ + j < l.length) (x : Int) (hxe : x = l[at_ + j]) (hx : 0 ≤ x ∧ x ≤ 255) (h0 : 0 ≤ r) (hr : (r + 1) * 64 ≤ 2097152) :
    tremaref01_At.l1 (k + 1) l at_ (n : Int) r j = tremaref01_At.l1 k l at_ (n : Int) (r * 64 + x % 64) ((j + 1 : Nat) : Int) := by
  have ea : wrap64 ((at_ : Int) + j) = ((at_ + j : Nat) : Int) := by unfold wrap64; omega
  have ew : wrap64 ((j : Int) + 1) = ((j + 1 : Nat) : Int) := by unfold wrap64; omega
  simp only [tremaref01_At.l1]
  rw [if_pos (by omega), ea, if_pos (by omega), if_pos (by omega), rd_at l _ hlt, ew, ← hxe, step_r2 r x h0 hr hx]
theorem fold_cons (r x : Int) (t : List Int) : fold r (x :: t) = fold (r * 64 + x % 64) t := rfl
theorem l1_pure (l : List Int) (hb : Bytes l) (hl : l.length ≤ 140737488355328) (at_ : Nat) (n : Nat) (hn : n ≤ 8) (han : at_ + n ≤ l.length) : ∀ (d j k : Nat) (r : Int), n - j = d → j ≤ n → d < k → 0 ≤ r → (r + 1) * (64 ^ d : Nat) ≤ 2097152 →
    tremaref01_At.l1 k l at_ (n : Int) r j = some (fold r ((l.drop (at_ + j)).take d), (n : Int), false) := by
  intro d
  induction d with
  | zero =>
    intro j k r hd hj hk _ _
    obtain ⟨k, rfl⟩ : ∃ m, k = m + 1 := ⟨k - 1, by omega⟩
    simp only [tremaref01_At.l1]
    rw [if_neg (by omega)]
    simp [fold]
  | succ d ih =>
    intro j k r hd hj hk h0 hr
    obtain ⟨k, rfl⟩ : ∃ m, k = m + 1 := ⟨k - 1, by clear hr; omega⟩
    have hlt : at_ + j < l.length := by clear hr; omega
    have hx := hb l[at_ + j] (List.getElem_mem hlt)
    have hp := step_p (x := l[at_ + j]) h0 (Nat.one_le_pow d 64 (by decide)) (by rw [Nat.pow_succ, Nat.mul_comm] at hr; exact hr)
    clear hr
    have h5 : 0 ≤ r * 64 + l[at_ + j] % 64 := by clear hp ih; omega
    rw [l1_step l hl at_ n j k r (by clear hp ih; omega) hlt _ rfl hx h0 hp.1, ih (j + 1) k _ (by clear hp ih; omega) (by clear hp ih; omega) (by clear hp ih; omega) h5 hp.2, List.drop_eq_getElem_cons hlt, List.take_succ_cons, fold_cons]
    rfl
def fin (l : List Int) (at_ : Nat) (c : Int) (bs : List (Int × Int)) (m : Nat) : Int × Int × Bool :=
  if m < bs.length then (65533, 1 + (m : Int), decide (at_ + 1 + m = l.length)) else (fold (st c) ((l.drop (at_ + 1)).take m), 1 + (m : Int), false)
theorem j1_pure (l : List Int) (hb : Bytes l) (hl : l.length ≤ 140737488355328) (at_ : Nat) (hat : at_ < l.length) (bs : List (Int × Int)) (hbs : bnd l[at_] = some bs) (m k : Nat) (hm : m ≤ bs.length) (hm2 : at_ + 1 + m ≤ l.length) (hk : m + 3 < k) :
    tremaref01_At.j1 k l at_ (flat bs) (1 + (m : Int)) = some (fin l at_ l[at_] bs m) := by
  obtain ⟨k, rfl⟩ : ∃ q, k = q + 1 := ⟨k - 1, by omega⟩
  have hc := hb l[at_] (List.getElem_mem hat)
  have hs := st_bound hc hbs
  have h3 := bnd_len hbs
  have ef : wrap64 (((flat bs).length : Int) / 2) = bs.length := by rw [flat_len]; unfold wrap64; omega
  simp only [tremaref01_At.j1]
  rw [ef]
  unfold fin
  by_cases h1 : m < bs.length
  · rw [if_pos (by omega), if_pos h1]
    have ea : wrap64 ((at_ : Int) + (1 + m)) = ((at_ + 1 + m : Nat) : Int) := by unfold wrap64; omega
    rw [ea]
    congr 3
    rw [Bool.eq_iff_iff]
    simp only [beq_iff_eq, decide_eq_true_eq]
    omega
  · obtain rfl : m = bs.length := by omega
    rw [if_neg (by omega), if_neg h1]
    have hw : wrap32 l[at_] = l[at_] := by clear hs; unfold wrap32; omega
    by_cases h0 : bs.length = 0
    · rw [if_pos (by omega), if_pos (by omega), if_pos (by omega), rd_at l at_ hat, hw, h0]
      have : st l[at_] = l[at_] := by
        unfold bnd at hbs
        unfold st
        split at hbs
        · rename_i h; rw [if_pos h]
        · split at hbs
          · cases hbs
          · split at hbs
            · cases hbs; simp at h0
            · split at hbs
              · cases hbs; simp at h0
              · cases hbs; simp at h0
      simp [fold, this]
    · rw [if_neg (by omega), if_pos (by omega), if_pos (by omega)]
      have e7 : wrap64 (7 - (1 + (bs.length : Int))) = 6 - bs.length := by clear hs; unfold wrap64; omega
      rw [e7, if_pos (by omega), rd_at l at_ hat, hw]
      have hsh : (shl .i32 1 (6 - (bs.length : Int))) ≠ 0 ∧ Int.tmod l[at_] (shl .i32 1 (6 - (bs.length : Int))) = st l[at_] := by
        unfold bnd at hbs
        unfold st
        split at hbs
        · cases hbs; simp at h0
        · rename_i g1
          rw [if_neg g1]
          split at hbs
          · cases hbs
          · split at hbs
            · rename_i g3; cases hbs
              rw [if_pos g3]
              exact ⟨by decide, by rw [show shl .i32 1 (6 - (([(128, 191)] : List (Int × Int)).length : Int)) = 32 by decide, Int.tmod_eq_emod_of_nonneg hc.1]⟩
            · rename_i g3
              rw [if_neg g3]
              split at hbs
              · rename_i g4; cases hbs
                rw [if_pos g4]
                simp only [List.length_cons, List.length_nil]
                exact ⟨by decide, by rw [show shl .i32 1 (6 - ((0 + 1 + 1 : Nat) : Int)) = 16 by decide, Int.tmod_eq_emod_of_nonneg hc.1]⟩
              · rename_i g4; cases hbs
                rw [if_neg g4]
                simp only [List.length_cons, List.length_nil]
                exact ⟨by decide, by rw [show shl .i32 1 (6 - ((0 + 1 + 1 + 1 : Nat) : Int)) = 8 by decide, Int.tmod_eq_emod_of_nonneg hc.1]⟩
      rw [if_neg hsh.1, hsh.2]
      have := l1_pure l hb hl at_ (1 + bs.length) (by clear hs; omega) (by clear hs; omega) bs.length 1 k (st l[at_]) (by clear hs; omega) (by clear hs; omega) (by clear hs; omega) hs.1 hs.2
      rw [show ((1 : Int) + (bs.length : Int)) = ((1 + bs.length : Nat) : Int) by push_cast; rfl]
      exact this
end Go.Proofs.YthffpkdadffinaaDoor.Ux
namespace Go.Proofs.YthffpkdadffinaaDoor.Ux
set_option linter.unusedVariables false
set_option linter.unusedSimpArgs false
open Go.RowKit Go.Proofs.YthffpkdadffinaaDoorW.PrintWords Go.Proofs.YthffpkdadffinaaDoor.Hp Go.Proofs.YthffpkdadffinaaDoor.X
def dec : Nat → List Int → Int → List S103 × List Int × Int
  | 0, b, p => ([], b, p)
  | _ + 1, [], p => ([], [], p)
  | k + 1, c :: t, p =>
    if (one1 c t).2.2 = true then ([], c :: t, p)
    else ((⟨(one1 c t).1, p, (one1 c t).2.1⟩ : S103) :: (dec k ((c :: t).drop (one1 c t).2.1.toNat) (p + (one1 c t).2.1)).1, (dec k ((c :: t).drop (one1 c t).2.1.toNat) (p + (one1 c t).2.1)).2)
def dc (b : List Int) (p : Int) : List S103 × List Int × Int := dec b.length b p
def rest1 (b : List Int) (p : Int) : List S103 := if b = [] then [] else [⟨65533, p, b.length⟩]
def full (b : List Int) : List S103 := (dc b 0).1 ++ rest1 (dc b 0).2.1 (dc b 0).2.2
theorem drop_lt (c : Int) (t : List Int) : ((c :: t).drop (one1 c t).2.1.toNat).length ≤ t.length := by
  have := one1_width c t
  rw [List.length_drop, List.length_cons]
  omega
theorem dec_more : ∀ (k : Nat) (b : List Int) (p : Int), b.length ≤ k → dec k b p = dc b p
  | 0, [], p, _ => rfl
  | 0, c :: t, p, h => by simp at h
  | k + 1, [], p, _ => rfl
  | k + 1, c :: t, p, h => by
    have hd := drop_lt c t
    have h' : t.length ≤ k := by simpa using h
    unfold dc
    rw [List.length_cons]
    simp only [dec]
    rw [dec_more k _ _ (by omega), dec_more t.length _ _ hd]
theorem dc_nil (p : Int) : dc [] p = ([], [], p) := rfl
theorem dc_cons (c : Int) (t : List Int) (p : Int) : dc (c :: t) p = if (one1 c t).2.2 = true then ([], c :: t, p) else ((⟨(one1 c t).1, p, (one1 c t).2.1⟩ : S103) :: (dc ((c :: t).drop (one1 c t).2.1.toNat) (p + (one1 c t).2.1)).1, (dc ((c :: t).drop (one1 c t).2.1.toNat) (p + (one1 c t).2.1)).2) := by
  rw [dc, List.length_cons]
  simp only [dec]
  rw [dec_more t.length _ _ (drop_lt c t)]
theorem dc_ind {P : List Int → Int → Prop} (h0 : ∀ p, P [] p) (h1 : ∀ c t p, (one1 c t).2.2 = true → P (c :: t) p) (h2 : ∀ c t p, (one1 c t).2.2 = false → P ((c :: t).drop (one1 c t).2.1.toNat) (p + (one1 c t).2.1) → P (c :: t) p) : ∀ b p, P b p := by
  intro b
  induction hn : b.length using Nat.strongRecOn generalizing b with
  | _ n ih =>
    intro p
    cases b with
    | nil => exact h0 p
    | cons c t =>
      cases hm : (one1 c t).2.2 with
      | true => exact h1 c t p hm
      | false =>
        have hd := drop_lt c t
        exact h2 c t p hm (ih _ (by rw [← hn, List.length_cons]; omega) _ rfl _)
theorem dc_len (b : List Int) (p : Int) : (dc b p).2.2 + (dc b p).2.1.length = p + b.length ∧ (dc b p).1.length + (dc b p).2.1.length ≤ b.length ∧ (dc b p).2.1.length ≤ b.length := by
  refine dc_ind (P := fun b p => (dc b p).2.2 + (dc b p).2.1.length = p + b.length ∧ (dc b p).1.length + (dc b p).2.1.length ≤ b.length ∧ (dc b p).2.1.length ≤ b.length) ?_ ?_ ?_ b p
  · intro p; simp [dc_nil]
  · intro c t p h; rw [dc_cons, if_pos h]; simp
  · intro c t p h ih
    have hw := one1_width c t
    rw [dc_cons, if_neg (by simp [h])]
    simp only [List.length_drop, List.length_cons] at ih ⊢
    omega
theorem cont_more : ∀ (bs : List (Int × Int)) (t : List Int) (r i : Int), (cont bs t r i).2.2 = true → (cont bs t r i).1 = 65533 ∧ (cont bs t r i).2.1 = i + t.length ∧ t.length < bs.length
  | [], t, r, i, h => by simp [cont] at h
  | b :: bs, [], r, i, h => by simp [cont]
  | (lo, hi) :: bs, x :: t, r, i, h => by
    simp only [cont] at h ⊢
    split
    · rename_i hc; rw [if_pos hc] at h; simp at h
    · rename_i hc
      rw [if_neg hc] at h
      have := cont_more bs t _ _ h
      simp only [List.length_cons]
      refine ⟨this.1, by rw [this.2.1]; push_cast; omega, by omega⟩
theorem one1_more (c : Int) (t : List Int) (h : (one1 c t).2.2 = true) : (one1 c t).1 = 65533 ∧ (one1 c t).2.1 = 1 + t.length ∧ t.length < 3 := by
  unfold one1 at h ⊢
  cases hb : bnd c with
  | none => rw [hb] at h; simp at h
  | some bs =>
    rw [hb] at h
    have h1 := cont_more bs t _ _ h
    have h2 := bnd_len hb
    exact ⟨h1.1, h1.2.1, by omega⟩
theorem dc_rest (b : List Int) (p : Int) : (dc b p).2.1.length ≤ 3 ∧ (dc (dc b p).2.1 (dc b p).2.2) = ([], (dc b p).2.1, (dc b p).2.2) := by
  refine dc_ind (P := fun b p => (dc b p).2.1.length ≤ 3 ∧ (dc (dc b p).2.1 (dc b p).2.2) = ([], (dc b p).2.1, (dc b p).2.2)) ?_ ?_ ?_ b p
  · intro p; simp [dc_nil]
  · intro c t p h
    have h3 := one1_more c t h
    rw [dc_cons, if_pos h]
    simp only [List.length_cons]
    exact ⟨by omega, by rw [dc_cons, if_pos h]⟩
  · intro c t p h ih
    rw [dc_cons, if_neg (by simp [h])]
    exact ih
theorem bytes_drop {l : List Int} (h : Bytes l) (n : Nat) : Bytes (l.drop n) := fun x hx => h x (List.mem_of_mem_drop hx)
end Go.Proofs.YthffpkdadffinaaDoor.Ux
