/-
  tremalaw09.fixed: the chapter's examples hold.
-/
import Derived.Test.YtpebemljgeammaaPl
import Derived.Test.YtpebemljgeammaaSn
namespace Go.Proofs.Ytpebemljgeammaa.Sf
set_option linter.unusedVariables false
set_option linter.unusedSimpArgs false
open Go.RowKit Go.Proofs.YtpebemljgeammaaW.PrintWords Go.Proofs.Ytpebemljgeammaa.Hp Go.Proofs.Ytpebemljgeammaa.Sp0 Go.Proofs.Ytpebemljgeammaa.Spint Go.Proofs.Ytpebemljgeammaa.Pl

def ex : List (Int × Int) := [(1, 2), (1, 0), (1, 2), (1, 4), (4, 1)]

theorem ex_reps (w : World) : Reps (kOp.K w) kOp.sz ex [.int .i64 1, .int .i64 2, .int .i64 1, .int .i64 0, .int .i64 1, .int .i64 2, .int .i64 1, .int .i64 4, .int .i64 4, .int .i64 1] := by
  refine ⟨rfl, fun j p hj => ?_⟩
  match j, hj with
  | 0, hj | 1, hj | 2, hj | 3, hj | 4, hj => cases hj; exact ⟨[_], [_], rfl, rfl, rfl⟩
  | n + 5, hj => simp [ex] at hj

theorem ex1 : (runK (setSize 4) ex ex.length).1 = [1, 1, 0, 0, 0] := by decide +kernel
theorem ex2 : (runK (setSize 4) ex ex.length).2 = [2, 0] := by decide +kernel
set_option maxRecDepth 100000 in
set_option maxHeartbeats 4000000 in
theorem fixed (w : World) : Calls Try.prog 15 #[] w fun e w' => e = .returned (.bool true) ∧ Below w.heap.size w w' := by
  go_enter Try.func15, Try.ntmps15
  go_wp2_with (go_at_call 22; refine (New w 4 (by decide)).mono ?_; rintro e w1 ⟨g, rfl, h1, h2⟩; have H1 := Aside0.mk h1; have H2 := Aside0.mk h2; clear h1 h2)
  have hC : kOp.C (w1.alloc (.cells #[.int .i64 1, .int .i64 2, .int .i64 1, .int .i64 0, .int .i64 1, .int .i64 2, .int .i64 1, .int .i64 4, .int .i64 4, .int .i64 1] 28)) (some ⟨w1.heap.size, 0, none⟩) 5 ex :=
    lit_C (xs := ex) (heap_alloc_new w1 _) (ex_reps _) (by decide)
  have HC := Aside0.mk hC
  clear hC
  go_wp2_with (go_at_call 16; go_must (refine (play _ _ 5 5 4 ex (by decide) HC.out (by decide) (by intro j hj; match j, hj with | 0, _ | 1, _ | 2, _ | 3, _ | 4, _ => decide)).mono ?_; rintro e w2 ⟨v1, v2, rfl, p1, p2, p3⟩))
  obtain ⟨A1, c1, rfl, r1⟩ := own_reads p1
  obtain ⟨A2, c2, rfl, r2⟩ := own_reads p2
  have R1 := Aside0.mk p1
  have R2 := Aside0.mk p2
  have P3 := Aside0.mk p3
  clear p1 p2 p3 r1 r2
  have hs : IsSet TS TI .i64 4 [] g w.heap.size (fun b => w.heap.size ≤ b ∧ b < w1.heap.size) w2 := by
    have h3 := H1.out.bound
    exact h3.step (fun b hb hlt => (P3.out.block b (by rw [World.size_alloc]; omega)).trans (Below.heap_alloc _ _ _ hlt))
  have HS := Aside0.mk hs
  clear hs
  go_wp2_with (first | (go_at_call 26; go_must (refine (Spint.Add w2 w.heap.size g _ 4 [] 3 (by decide) HS.out).mono ?_; rintro e w3 ⟨rfl, ⟨hs2, hc2⟩⟩; have HS2 := Aside0.mk hs2; have HC2 := Aside0.mk hc2; clear hs2 hc2)) | (go_at_call 30; go_must (refine (Spint.Has _ w.heap.size g _ 4 [3] 3 (by decide) HS2.out).mono ?_; rintro e w4 ⟨rfl, rfl⟩)) | (go_at_call 38; go_must (refine (Spint.Len _ w.heap.size g _ 4 [3] HS2.out).mono ?_; rintro e w4 ⟨rfl, rfl⟩)))
  have q1 := own_move R1.out (fun b hb => HC2.out.keep b (own_lt R1.out b hb) (fun h => by have := own_base R1.out b hb; rw [World.size_alloc] at this; omega))
  have q2 := own_move R2.out (fun b hb => HC2.out.keep b (own_lt R2.out b hb) (fun h => by have := own_base R2.out b hb; rw [World.size_alloc] at this; omega))
  have k1 := Aside0.mk ((own_reads' q1).below (below_alloc (Below.refl _ _) (.cells #[.int .i64 1, .int .i64 1, .int .i64 0, .int .i64 0, .int .i64 0] 3)))
  have l1 := Aside0.mk (lit_reads (k := .i64) (xs := [1, 1, 0, 0, 0]) (heap_alloc_new w3 (.cells #[.int .i64 1, .int .i64 1, .int .i64 0, .int .i64 0, .int .i64 0] 3)) rfl (by decide))
  have Q2 := Aside0.mk (own_reads' q2)
  clear q1 q2
  go_wp2_with (go_at_call 18; have t1 := k1.out; refine (Sn.same_true _ _ _ _ _ _ _ _ _ t1 l1.out ex1).mono ?_; rintro e w5 ⟨rfl, hq⟩; have HQ := Aside0.mk hq; clear hq k1 t1)
  have l2 := Aside0.mk (lit_reads (k := .i64) (xs := [2, 0]) (heap_alloc_new w5 (.cells #[.int .i64 2, .int .i64 0] 3)) rfl (by decide))
  have b5 : Below w3.heap.size w3 w5 := below_then (below_alloc (Below.refl _ _) _) (by simp) HQ.out.below
  have k2 := Aside0.mk ((Q2.out.below b5).below (below_alloc (Below.refl _ _) (.cells #[.int .i64 2, .int .i64 0] 3)))
  have B5 := Aside0.mk b5
  clear b5
  go_wp2_with (go_at_call 18; go_must (refine (Sn.same_true _ _ _ _ _ _ _ _ _ k2.out l2.out ex2).mono ?_; rintro e w6 ⟨rfl, hq⟩; have HQ2 := Aside0.mk hq; clear hq))
  go_ret
  have b2 := below_then (H2.out.alloc H2.out.size _) (H2.out.alloc H2.out.size _).size P3.out
  have b3 := HC2.out.below_of b2 (fun b h => h.1)
  have b5 := below_then b3 b3.size B5.out
  exact ⟨rfl, below_then (b5.alloc b5.size _) (b5.alloc b5.size _).size HQ2.out.below⟩
end Go.Proofs.Ytpebemljgeammaa.Sf
