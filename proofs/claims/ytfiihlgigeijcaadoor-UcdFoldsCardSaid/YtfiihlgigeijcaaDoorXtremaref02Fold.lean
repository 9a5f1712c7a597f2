-- Written by a program of this session (xprint.py), over the kit's print.
import Derived.Test.YtfiihlgigeijcaaDoorX0
import Derived.Test.YtfiihlgigeijcaaDoorXtremaref02in
namespace Go.Proofs.YtfiihlgigeijcaaDoor.X
open Go.RowKit Go.Proofs.YtfiihlgigeijcaaDoorW.PrintWords Go.Proofs.YtfiihlgigeijcaaDoorW.PrintLast Go.Proofs.YtfiihlgigeijcaaDoorW.PrintMore
attribute [local go_sem] max2_int min2_int max_two min_two max_three min_three max_four min_four   -- for this text's walks alone
set_option linter.unusedVariables false
set_option linter.unusedSimpArgs false

/-! ### tremaref02_Fold: function 26 -/
def tremaref02_Fold.l0 : Nat → Int → List Int → List Int → Int → Option (List Int)
 | 0, _, _, _, _ => none
 | k + 1, x0, x5, x6, x7 => if x7 < (x5.length : Int) then (if 0 ≤ x7 then (if x0 = (rd x5 x7) then (if x7 < (x6.length : Int) then (some (([rd x6 x7] : List Int))) else (none)) else (tremaref02_Fold.l0 k x0 x5 x6 (wrap64 (x7 + 1)))) else (none)) else (some (([x0] : List Int)))
def tremaref02_Fold.f (k : Nat) (a0 : Int) : Option (List Int) := (tremaref02_in.f a0 65 90).bind fun t320 => (if t320 = true then (some (([wrap32 (a0 + 32)] : List Int))) else ((tremaref02_in.f a0 192 214).bind fun t324 => (if t324 = true then (some (([wrap32 (a0 + 32)] : List Int))) else ((tremaref02_in.f a0 216 222).bind fun t328 => (if t328 = true then (some (([wrap32 (a0 + 32)] : List Int))) else ((tremaref02_in.f a0 913 929).bind fun t332 => (if t332 = true then (some (([wrap32 (a0 + 32)] : List Int))) else ((tremaref02_in.f a0 931 937).bind fun t336 => (if t336 = true then (some (([wrap32 (a0 + 32)] : List Int))) else ((tremaref02_in.f a0 1040 1071).bind fun t340 => (if t340 = true then (some (([wrap32 (a0 + 32)] : List Int))) else ((tremaref02_in.f a0 1024 1039).bind fun t344 => (if t344 = true then (some (([wrap32 (a0 + 80)] : List Int))) else (if (Int.tmod a0 2) = 0 then ((tremaref02_in.f a0 256 302).bind fun t348 => (if t348 = true then (some (([wrap32 (a0 + 1)] : List Int))) else ((tremaref02_in.f a0 306 310).bind fun t352 => (if t352 = true then (some (([wrap32 (a0 + 1)] : List Int))) else ((tremaref02_in.f a0 330 374).bind fun t356 => (if t356 = true then (some (([wrap32 (a0 + 1)] : List Int))) else ((tremaref02_in.f a0 7680 7828).bind fun t360 => (if t360 = true then (some (([wrap32 (a0 + 1)] : List Int))) else (if (Int.tmod a0 2) = 1 then ((tremaref02_in.f a0 313 327).bind fun t364 => (if t364 = true then (some (([wrap32 (a0 + 1)] : List Int))) else ((tremaref02_in.f a0 377 381).bind fun t368 => (if t368 = true then (some (([wrap32 (a0 + 1)] : List Int))) else (if a0 = 223 then (some (([115, 115] : List Int))) else (if a0 = 7838 then (some (([115, 115] : List Int))) else (if a0 = 304 then (some (([105, 775] : List Int))) else (tremaref02_Fold.l0 k a0 (([181, 376, 383, 837, 902, 962, 8486, 8490, 8491] : List Int)) (([956, 255, 115, 953, 940, 963, 969, 107, 229] : List Int)) 0)))))))) else (if a0 = 223 then (some (([115, 115] : List Int))) else (if a0 = 7838 then (some (([115, 115] : List Int))) else (if a0 = 304 then (some (([105, 775] : List Int))) else (tremaref02_Fold.l0 k a0 (([181, 376, 383, 837, 902, 962, 8486, 8490, 8491] : List Int)) (([956, 255, 115, 953, 940, 963, 969, 107, 229] : List Int)) 0))))))))))))) else (if (Int.tmod a0 2) = 1 then ((tremaref02_in.f a0 313 327).bind fun t410 => (if t410 = true then (some (([wrap32 (a0 + 1)] : List Int))) else ((tremaref02_in.f a0 377 381).bind fun t414 => (if t414 = true then (some (([wrap32 (a0 + 1)] : List Int))) else (if a0 = 223 then (some (([115, 115] : List Int))) else (if a0 = 7838 then (some (([115, 115] : List Int))) else (if a0 = 304 then (some (([105, 775] : List Int))) else (tremaref02_Fold.l0 k a0 (([181, 376, 383, 837, 902, 962, 8486, 8490, 8491] : List Int)) (([956, 255, 115, 953, 940, 963, 969, 107, 229] : List Int)) 0)))))))) else (if a0 = 223 then (some (([115, 115] : List Int))) else (if a0 = 7838 then (some (([115, 115] : List Int))) else (if a0 = 304 then (some (([105, 775] : List Int))) else (tremaref02_Fold.l0 k a0 (([181, 376, 383, 837, 902, 962, 8486, 8490, 8491] : List Int)) (([956, 255, 115, 953, 940, 963, 969, 107, 229] : List Int)) 0)))))))))))))))))))
theorem tremaref02_Fold.mono_l : ∀ k, (∀ y0 y1 y2 y3, LeO (tremaref02_Fold.l0 k y0 y1 y2 y3) (tremaref02_Fold.l0 (k + 1) y0 y1 y2 y3))
 | 0 => fun _ _ _ _ r h => by simp [tremaref02_Fold.l0] at h
 | k + 1 => by
  have ih0 := tremaref02_Fold.mono_l k
  ·intro y0 y1 y2 y3
   unfold tremaref02_Fold.l0
   repeat' first
   | (with_reducible exact ih0 _ _ _ _)
   | (with_reducible exact LeO.refl _)
   | (with_reducible exact LeO.none _)
   | (with_reducible refine LeO.ite ?_ ?_)
   | (with_reducible refine LeO.bind ?_ (fun _ => ?_))
   | exact ih0 _ _ _ _
   | exact LeO.none _
   | refine LeO.ite ?_ ?_
   | refine LeO.bind ?_ (fun _ => ?_)
theorem tremaref02_Fold.mono : ∀ a0 k, LeO (tremaref02_Fold.f k a0) (tremaref02_Fold.f (k + 1) a0) := by
 intro a0 k
 have ih0 := tremaref02_Fold.mono_l k
 unfold tremaref02_Fold.f
 repeat' first
   | (with_reducible exact ih0 _ _ _ _)
   | (with_reducible exact LeO.refl _)
   | (with_reducible exact LeO.none _)
   | (with_reducible refine LeO.ite ?_ ?_)
   | (with_reducible refine LeO.bind ?_ (fun _ => ?_))
   | exact ih0 _ _ _ _
   | exact LeO.none _
   | refine LeO.ite ?_ ?_
   | refine LeO.bind ?_ (fun _ => ?_)
set_option maxHeartbeats 8000000 in
set_option maxRecDepth 100000 in
theorem tremaref02_Fold.calls (k : Nat) (a0 : Int) (r : List Int) (w : World) (h : tremaref02_Fold.f k a0 = some r) :
  Calls Tryd.prog 26 #[.int .i32 a0] w fun e w' => ∃ v0_ : Value, e = .returned (v0_) ∧ Kd.R (Kd.int .i32) 21 w' w.heap.size (fun _ => True) v0_ r ∧ Below w.heap.size w w' := by
 have HB := Aside0.mk (Below.refl w.heap.size w)
 have H : ((tremaref02_in.f a0 65 90).bind fun t320 => (if t320 = true then (some (([wrap32 (a0 + 32)] : List Int))) else ((tremaref02_in.f a0 192 214).bind fun t324 => (if t324 = true then (some (([wrap32 (a0 + 32)] : List Int))) else ((tremaref02_in.f a0 216 222).bind fun t328 => (if t328 = true then (some (([wrap32 (a0 + 32)] : List Int))) else ((tremaref02_in.f a0 913 929).bind fun t332 => (if t332 = true then (some (([wrap32 (a0 + 32)] : List Int))) else ((tremaref02_in.f a0 931 937).bind fun t336 => (if t336 = true then (some (([wrap32 (a0 + 32)] : List Int))) else ((tremaref02_in.f a0 1040 1071).bind fun t340 => (if t340 = true then (some (([wrap32 (a0 + 32)] : List Int))) else ((tremaref02_in.f a0 1024 1039).bind fun t344 => (if t344 = true then (some (([wrap32 (a0 + 80)] : List Int))) else (if (Int.tmod a0 2) = 0 then ((tremaref02_in.f a0 256 302).bind fun t348 => (if t348 = true then (some (([wrap32 (a0 + 1)] : List Int))) else ((tremaref02_in.f a0 306 310).bind fun t352 => (if t352 = true then (some (([wrap32 (a0 + 1)] : List Int))) else ((tremaref02_in.f a0 330 374).bind fun t356 => (if t356 = true then (some (([wrap32 (a0 + 1)] : List Int))) else ((tremaref02_in.f a0 7680 7828).bind fun t360 => (if t360 = true then (some (([wrap32 (a0 + 1)] : List Int))) else (if (Int.tmod a0 2) = 1 then ((tremaref02_in.f a0 313 327).bind fun t364 => (if t364 = true then (some (([wrap32 (a0 + 1)] : List Int))) else ((tremaref02_in.f a0 377 381).bind fun t368 => (if t368 = true then (some (([wrap32 (a0 + 1)] : List Int))) else (if a0 = 223 then (some (([115, 115] : List Int))) else (if a0 = 7838 then (some (([115, 115] : List Int))) else (if a0 = 304 then (some (([105, 775] : List Int))) else (tremaref02_Fold.l0 k a0 (([181, 376, 383, 837, 902, 962, 8486, 8490, 8491] : List Int)) (([956, 255, 115, 953, 940, 963, 969, 107, 229] : List Int)) 0)))))))) else (if a0 = 223 then (some (([115, 115] : List Int))) else (if a0 = 7838 then (some (([115, 115] : List Int))) else (if a0 = 304 then (some (([105, 775] : List Int))) else (tremaref02_Fold.l0 k a0 (([181, 376, 383, 837, 902, 962, 8486, 8490, 8491] : List Int)) (([956, 255, 115, 953, 940, 963, 969, 107, 229] : List Int)) 0))))))))))))) else (if (Int.tmod a0 2) = 1 then ((tremaref02_in.f a0 313 327).bind fun t410 => (if t410 = true then (some (([wrap32 (a0 + 1)] : List Int))) else ((tremaref02_in.f a0 377 381).bind fun t414 => (if t414 = true then (some (([wrap32 (a0 + 1)] : List Int))) else (if a0 = 223 then (some (([115, 115] : List Int))) else (if a0 = 7838 then (some (([115, 115] : List Int))) else (if a0 = 304 then (some (([105, 775] : List Int))) else (tremaref02_Fold.l0 k a0 (([181, 376, 383, 837, 902, 962, 8486, 8490, 8491] : List Int)) (([956, 255, 115, 953, 940, 963, 969, 107, 229] : List Int)) 0)))))))) else (if a0 = 223 then (some (([115, 115] : List Int))) else (if a0 = 7838 then (some (([115, 115] : List Int))) else (if a0 = 304 then (some (([105, 775] : List Int))) else (tremaref02_Fold.l0 k a0 (([181, 376, 383, 837, 902, 962, 8486, 8490, 8491] : List Int)) (([956, 255, 115, 953, 940, 963, 969, 107, 229] : List Int)) 0)))))))))))))))))))) = some r := h
 clear h
 replace H := Option.bind_eq_some_iff.mp H
 obtain ⟨t320, A20, H⟩ := H
 replace H : (if t320 = true then (some (([wrap32 (a0 + 32)] : List Int))) else ((tremaref02_in.f a0 192 214).bind fun t324 => (if t324 = true then (some (([wrap32 (a0 + 32)] : List Int))) else ((tremaref02_in.f a0 216 222).bind fun t328 => (if t328 = true then (some (([wrap32 (a0 + 32)] : List Int))) else ((tremaref02_in.f a0 913 929).bind fun t332 => (if t332 = true then (some (([wrap32 (a0 + 32)] : List Int))) else ((tremaref02_in.f a0 931 937).bind fun t336 => (if t336 = true then (some (([wrap32 (a0 + 32)] : List Int))) else ((tremaref02_in.f a0 1040 1071).bind fun t340 => (if t340 = true then (some (([wrap32 (a0 + 32)] : List Int))) else ((tremaref02_in.f a0 1024 1039).bind fun t344 => (if t344 = true then (some (([wrap32 (a0 + 80)] : List Int))) else (if (Int.tmod a0 2) = 0 then ((tremaref02_in.f a0 256 302).bind fun t348 => (if t348 = true then (some (([wrap32 (a0 + 1)] : List Int))) else ((tremaref02_in.f a0 306 310).bind fun t352 => (if t352 = true then (some (([wrap32 (a0 + 1)] : List Int))) else ((tremaref02_in.f a0 330 374).bind fun t356 => (if t356 = true then (some (([wrap32 (a0 + 1)] : List Int))) else ((tremaref02_in.f a0 7680 7828).bind fun t360 => (if t360 = true then (some (([wrap32 (a0 + 1)] : List Int))) else (if (Int.tmod a0 2) = 1 then ((tremaref02_in.f a0 313 327).bind fun t364 => (if t364 = true then (some (([wrap32 (a0 + 1)] : List Int))) else ((tremaref02_in.f a0 377 381).bind fun t368 => (if t368 = true then (some (([wrap32 (a0 + 1)] : List Int))) else (if a0 = 223 then (some (([115, 115] : List Int))) else (if a0 = 7838 then (some (([115, 115] : List Int))) else (if a0 = 304 then (some (([105, 775] : List Int))) else (tremaref02_Fold.l0 k a0 (([181, 376, 383, 837, 902, 962, 8486, 8490, 8491] : List Int)) (([956, 255, 115, 953, 940, 963, 969, 107, 229] : List Int)) 0)))))))) else (if a0 = 223 then (some (([115, 115] : List Int))) else (if a0 = 7838 then (some (([115, 115] : List Int))) else (if a0 = 304 then (some (([105, 775] : List Int))) else (tremaref02_Fold.l0 k a0 (([181, 376, 383, 837, 902, 962, 8486, 8490, 8491] : List Int)) (([956, 255, 115, 953, 940, 963, 969, 107, 229] : List Int)) 0))))))))))))) else (if (Int.tmod a0 2) = 1 then ((tremaref02_in.f a0 313 327).bind fun t410 => (if t410 = true then (some (([wrap32 (a0 + 1)] : List Int))) else ((tremaref02_in.f a0 377 381).bind fun t414 => (if t414 = true then (some (([wrap32 (a0 + 1)] : List Int))) else (if a0 = 223 then (some (([115, 115] : List Int))) else (if a0 = 7838 then (some (([115, 115] : List Int))) else (if a0 = 304 then (some (([105, 775] : List Int))) else (tremaref02_Fold.l0 k a0 (([181, 376, 383, 837, 902, 962, 8486, 8490, 8491] : List Int)) (([956, 255, 115, 953, 940, 963, 969, 107, 229] : List Int)) 0)))))))) else (if a0 = 223 then (some (([115, 115] : List Int))) else (if a0 = 7838 then (some (([115, 115] : List Int))) else (if a0 = 304 then (some (([105, 775] : List Int))) else (tremaref02_Fold.l0 k a0 (([181, 376, 383, 837, 902, 962, 8486, 8490, 8491] : List Int)) (([956, 255, 115, 953, 940, 963, 969, 107, 229] : List Int)) 0))))))))))))))))))) = some r := H
 have A2 := Aside0.mk A20
 clear A20
 by_cases c3 : t320 = true
 ·subst c3
  have H1 : (some (([wrap32 (a0 + 32)] : List Int))) = some r := by rw [if_pos rfl] at H; exact H
  clear H
  have H := H1
  clear H1
  obtain ⟨y321, hy321⟩ : ∃ y_ : List Int, y_ = (([wrap32 (a0 + 32)] : List Int)) := ⟨_, rfl⟩
  replace H : (some y321) = some r := by first | (rw [hy321]; with_reducible exact H) | (have H2_ := (Option.bind_some _ _).symm.trans H; rw [hy321]; with_reducible exact H2_) | (have H2_ := (Option.bind_some _ _).symm.trans H; with_reducible exact H2_) | with_reducible exact H | (rw [hy321]; exact H) | exact H
  have Ny321 := Aside0.mk hy321
  clear hy321
  obtain rfl := Option.some.inj H
  go_enter Tryd.func26, Tryd.ntmps26
  go_wp2_with (first | ((with_reducible refine gate_callee (f := 31) rfl ?_); refine goesL_ (some 16) rfl rfl Tryd.func31 (by kernel_rfl) rfl #[.int .i32 a0, .int .i32 65, .int .i32 90] rfl (by (try simp only [List.map_toArray, List.map_cons, List.map_nil]); first | done | rfl | (simp only [List.length_drop, List.length_take]; rfl)) ?_; (with_reducible refine (tremaref02_in.calls a0 65 90 true _ A2.out).mono ?_); rintro e w' ⟨rfl, ⟨nd, rfl⟩⟩; refine ⟨_, rfl, ?_⟩) | ((with_reducible refine gate_dst (N := 39) rfl ?_); refine Kd.R_lit (Kd.int .i32) _ 21 ?hg (N := 39) ?hd (xs := ([wrap32 (a0 + 32)] : List Int)) (inner := [.int .i32 (wrap32 (a0 + 32))]) (ok := fun _ => True) (okp := fun _ => True) ?hr ?hp (fun _ hk => hk) trivial (Below.refl _ _) (Nat.le_refl _) (by simp) ?_; (case hd => rfl); (case hg => rfl); (case hr => first | (go_simp; done) | (go_simp; rfl)); (case hp => exact (Reps.one (show Kd.M (Kd.int .i32) _ _ _ (wrap32 (a0 + 32)) [.int .i32 (wrap32 (a0 + 32))] from rfl) (Reps.none _ _))); intro v322 w4 ho5 hb hg_ hnew_; clear hg_ hnew_; (first | rw [← Ny321.out] at ho5 | (simp only [Int.reduceToNat] at ho5; rw [← Ny321.out] at ho5)); have n0_ := Aside0.mk (Kd.R_lower ho5 (below_size (by repeat (first | (with_reducible first | exact HB.out | apply below_alloc | apply pw_below_drewN | apply below_drew1) | exact HB.out)))); have n1_ := Aside0.mk (below_step (by repeat (first | (with_reducible first | exact HB.out | apply below_alloc | apply pw_below_drewN | apply below_drew1) | exact HB.out)) hb); clear HB; have HO323 := n0_; have HB := n1_; clear n0_ n1_; clear hb ho5))
  go_ret
  exact ⟨_, by first | rfl | (simp [errW_none, errW_some] <;> rfl) | (simp [*, errW_none, errW_some] <;> rfl), by (with_reducible repeat (first | apply Kd.R_alloc | apply Kd.R_drewN | apply Kd.R_drew)); exact HO323.out, by repeat (first | (with_reducible first | exact HB.out | apply below_alloc | apply pw_below_drewN | apply below_drew1) | exact HB.out)⟩
 ·replace c3 := Bool.eq_false_iff.mpr c3
  subst c3
  have H1 : ((tremaref02_in.f a0 192 214).bind fun t324 => (if t324 = true then (some (([wrap32 (a0 + 32)] : List Int))) else ((tremaref02_in.f a0 216 222).bind fun t328 => (if t328 = true then (some (([wrap32 (a0 + 32)] : List Int))) else ((tremaref02_in.f a0 913 929).bind fun t332 => (if t332 = true then (some (([wrap32 (a0 + 32)] : List Int))) else ((tremaref02_in.f a0 931 937).bind fun t336 => (if t336 = true then (some (([wrap32 (a0 + 32)] : List Int))) else ((tremaref02_in.f a0 1040 1071).bind fun t340 => (if t340 = true then (some (([wrap32 (a0 + 32)] : List Int))) else ((tremaref02_in.f a0 1024 1039).bind fun t344 => (if t344 = true then (some (([wrap32 (a0 + 80)] : List Int))) else (if (Int.tmod a0 2) = 0 then ((tremaref02_in.f a0 256 302).bind fun t348 => (if t348 = true then (some (([wrap32 (a0 + 1)] : List Int))) else ((tremaref02_in.f a0 306 310).bind fun t352 => (if t352 = true then (some (([wrap32 (a0 + 1)] : List Int))) else ((tremaref02_in.f a0 330 374).bind fun t356 => (if t356 = true then (some (([wrap32 (a0 + 1)] : List Int))) else ((tremaref02_in.f a0 7680 7828).bind fun t360 => (if t360 = true then (some (([wrap32 (a0 + 1)] : List Int))) else (if (Int.tmod a0 2) = 1 then ((tremaref02_in.f a0 313 327).bind fun t364 => (if t364 = true then (some (([wrap32 (a0 + 1)] : List Int))) else ((tremaref02_in.f a0 377 381).bind fun t368 => (if t368 = true then (some (([wrap32 (a0 + 1)] : List Int))) else (if a0 = 223 then (some (([115, 115] : List Int))) else (if a0 = 7838 then (some (([115, 115] : List Int))) else (if a0 = 304 then (some (([105, 775] : List Int))) else (tremaref02_Fold.l0 k a0 (([181, 376, 383, 837, 902, 962, 8486, 8490, 8491] : List Int)) (([956, 255, 115, 953, 940, 963, 969, 107, 229] : List Int)) 0)))))))) else (if a0 = 223 then (some (([115, 115] : List Int))) else (if a0 = 7838 then (some (([115, 115] : List Int))) else (if a0 = 304 then (some (([105, 775] : List Int))) else (tremaref02_Fold.l0 k a0 (([181, 376, 383, 837, 902, 962, 8486, 8490, 8491] : List Int)) (([956, 255, 115, 953, 940, 963, 969, 107, 229] : List Int)) 0))))))))))))) else (if (Int.tmod a0 2) = 1 then ((tremaref02_in.f a0 313 327).bind fun t410 => (if t410 = true then (some (([wrap32 (a0 + 1)] : List Int))) else ((tremaref02_in.f a0 377 381).bind fun t414 => (if t414 = true then (some (([wrap32 (a0 + 1)] : List Int))) else (if a0 = 223 then (some (([115, 115] : List Int))) else (if a0 = 7838 then (some (([115, 115] : List Int))) else (if a0 = 304 then (some (([105, 775] : List Int))) else (tremaref02_Fold.l0 k a0 (([181, 376, 383, 837, 902, 962, 8486, 8490, 8491] : List Int)) (([956, 255, 115, 953, 940, 963, 969, 107, 229] : List Int)) 0)))))))) else (if a0 = 223 then (some (([115, 115] : List Int))) else (if a0 = 7838 then (some (([115, 115] : List Int))) else (if a0 = 304 then (some (([105, 775] : List Int))) else (tremaref02_Fold.l0 k a0 (([181, 376, 383, 837, 902, 962, 8486, 8490, 8491] : List Int)) (([956, 255, 115, 953, 940, 963, 969, 107, 229] : List Int)) 0)))))))))))))))))) = some r := by rw [if_neg (show ¬ (false = true) by decide)] at H; exact H
  clear H
  have H := H1
  clear H1
  replace H := Option.bind_eq_some_iff.mp H
  obtain ⟨t324, A60, H⟩ := H
  replace H : (if t324 = true then (some (([wrap32 (a0 + 32)] : List Int))) else ((tremaref02_in.f a0 216 222).bind fun t328 => (if t328 = true then (some (([wrap32 (a0 + 32)] : List Int))) else ((tremaref02_in.f a0 913 929).bind fun t332 => (if t332 = true then (some (([wrap32 (a0 + 32)] : List Int))) else ((tremaref02_in.f a0 931 937).bind fun t336 => (if t336 = true then (some (([wrap32 (a0 + 32)] : List Int))) else ((tremaref02_in.f a0 1040 1071).bind fun t340 => (if t340 = true then (some (([wrap32 (a0 + 32)] : List Int))) else ((tremaref02_in.f a0 1024 1039).bind fun t344 => (if t344 = true then (some (([wrap32 (a0 + 80)] : List Int))) else (if (Int.tmod a0 2) = 0 then ((tremaref02_in.f a0 256 302).bind fun t348 => (if t348 = true then (some (([wrap32 (a0 + 1)] : List Int))) else ((tremaref02_in.f a0 306 310).bind fun t352 => (if t352 = true then (some (([wrap32 (a0 + 1)] : List Int))) else ((tremaref02_in.f a0 330 374).bind fun t356 => (if t356 = true then (some (([wrap32 (a0 + 1)] : List Int))) else ((tremaref02_in.f a0 7680 7828).bind fun t360 => (if t360 = true then (some (([wrap32 (a0 + 1)] : List Int))) else (if (Int.tmod a0 2) = 1 then ((tremaref02_in.f a0 313 327).bind fun t364 => (if t364 = true then (some (([wrap32 (a0 + 1)] : List Int))) else ((tremaref02_in.f a0 377 381).bind fun t368 => (if t368 = true then (some (([wrap32 (a0 + 1)] : List Int))) else (if a0 = 223 then (some (([115, 115] : List Int))) else (if a0 = 7838 then (some (([115, 115] : List Int))) else (if a0 = 304 then (some (([105, 775] : List Int))) else (tremaref02_Fold.l0 k a0 (([181, 376, 383, 837, 902, 962, 8486, 8490, 8491] : List Int)) (([956, 255, 115, 953, 940, 963, 969, 107, 229] : List Int)) 0)))))))) else (if a0 = 223 then (some (([115, 115] : List Int))) else (if a0 = 7838 then (some (([115, 115] : List Int))) else (if a0 = 304 then (some (([105, 775] : List Int))) else (tremaref02_Fold.l0 k a0 (([181, 376, 383, 837, 902, 962, 8486, 8490, 8491] : List Int)) (([956, 255, 115, 953, 940, 963, 969, 107, 229] : List Int)) 0))))))))))))) else (if (Int.tmod a0 2) = 1 then ((tremaref02_in.f a0 313 327).bind fun t410 => (if t410 = true then (some (([wrap32 (a0 + 1)] : List Int))) else ((tremaref02_in.f a0 377 381).bind fun t414 => (if t414 = true then (some (([wrap32 (a0 + 1)] : List Int))) else (if a0 = 223 then (some (([115, 115] : List Int))) else (if a0 = 7838 then (some (([115, 115] : List Int))) else (if a0 = 304 then (some (([105, 775] : List Int))) else (tremaref02_Fold.l0 k a0 (([181, 376, 383, 837, 902, 962, 8486, 8490, 8491] : List Int)) (([956, 255, 115, 953, 940, 963, 969, 107, 229] : List Int)) 0)))))))) else (if a0 = 223 then (some (([115, 115] : List Int))) else (if a0 = 7838 then (some (([115, 115] : List Int))) else (if a0 = 304 then (some (([105, 775] : List Int))) else (tremaref02_Fold.l0 k a0 (([181, 376, 383, 837, 902, 962, 8486, 8490, 8491] : List Int)) (([956, 255, 115, 953, 940, 963, 969, 107, 229] : List Int)) 0))))))))))))))))) = some r := H
  have A6 := Aside0.mk A60
  clear A60
  by_cases c7 : t324 = true
  ·subst c7
   have H1 : (some (([wrap32 (a0 + 32)] : List Int))) = some r := by rw [if_pos rfl] at H; exact H
   clear H
   have H := H1
   clear H1
   obtain ⟨y325, hy325⟩ : ∃ y_ : List Int, y_ = (([wrap32 (a0 + 32)] : List Int)) := ⟨_, rfl⟩
   replace H : (some y325) = some r := by first | (rw [hy325]; with_reducible exact H) | (have H2_ := (Option.bind_some _ _).symm.trans H; rw [hy325]; with_reducible exact H2_) | (have H2_ := (Option.bind_some _ _).symm.trans H; with_reducible exact H2_) | with_reducible exact H | (rw [hy325]; exact H) | exact H
   have Ny325 := Aside0.mk hy325
   clear hy325
   obtain rfl := Option.some.inj H
   go_enter Tryd.func26, Tryd.ntmps26
   go_wp2_with (first | ((with_reducible refine gate_callee (f := 31) rfl ?_); refine goesL_ (some 16) rfl rfl Tryd.func31 (by kernel_rfl) rfl #[.int .i32 a0, .int .i32 65, .int .i32 90] rfl (by (try simp only [List.map_toArray, List.map_cons, List.map_nil]); first | done | rfl | (simp only [List.length_drop, List.length_take]; rfl)) ?_; (with_reducible refine (tremaref02_in.calls a0 65 90 false _ A2.out).mono ?_); rintro e w' ⟨rfl, ⟨nd, rfl⟩⟩; refine ⟨_, rfl, ?_⟩) | (go_at_call 31; (with_reducible refine (tremaref02_in.calls a0 192 214 true _ A6.out).mono ?_); rintro e w' ⟨rfl, ⟨nd, rfl⟩⟩) | ((with_reducible refine gate_dst (N := 39) rfl ?_); refine Kd.R_lit (Kd.int .i32) _ 21 ?hg (N := 39) ?hd (xs := ([wrap32 (a0 + 32)] : List Int)) (inner := [.int .i32 (wrap32 (a0 + 32))]) (ok := fun _ => True) (okp := fun _ => True) ?hr ?hp (fun _ hk => hk) trivial (Below.refl _ _) (Nat.le_refl _) (by simp) ?_; (case hd => rfl); (case hg => rfl); (case hr => first | (go_simp; done) | (go_simp; rfl)); (case hp => exact (Reps.one (show Kd.M (Kd.int .i32) _ _ _ (wrap32 (a0 + 32)) [.int .i32 (wrap32 (a0 + 32))] from rfl) (Reps.none _ _))); intro v326 w8 ho9 hb hg_ hnew_; clear hg_ hnew_; (first | rw [← Ny325.out] at ho9 | (simp only [Int.reduceToNat] at ho9; rw [← Ny325.out] at ho9)); have n0_ := Aside0.mk (Kd.R_lower ho9 (below_size (by repeat (first | (with_reducible first | exact HB.out | apply below_alloc | apply pw_below_drewN | apply below_drew1) | exact HB.out)))); have n1_ := Aside0.mk (below_step (by repeat (first | (with_reducible first | exact HB.out | apply below_alloc | apply pw_below_drewN | apply below_drew1) | exact HB.out)) hb); clear HB; have HO327 := n0_; have HB := n1_; clear n0_ n1_; clear hb ho9))
   go_ret
   exact ⟨_, by first | rfl | (simp [errW_none, errW_some] <;> rfl) | (simp [*, errW_none, errW_some] <;> rfl), by (with_reducible repeat (first | apply Kd.R_alloc | apply Kd.R_drewN | apply Kd.R_drew)); exact HO327.out, by repeat (first | (with_reducible first | exact HB.out | apply below_alloc | apply pw_below_drewN | apply below_drew1) | exact HB.out)⟩
  ·replace c7 := Bool.eq_false_iff.mpr c7
   subst c7
   have H1 : ((tremaref02_in.f a0 216 222).bind fun t328 => (if t328 = true then (some (([wrap32 (a0 + 32)] : List Int))) else ((tremaref02_in.f a0 913 929).bind fun t332 => (if t332 = true then (some (([wrap32 (a0 + 32)] : List Int))) else ((tremaref02_in.f a0 931 937).bind fun t336 => (if t336 = true then (some (([wrap32 (a0 + 32)] : List Int))) else ((tremaref02_in.f a0 1040 1071).bind fun t340 => (if t340 = true then (some (([wrap32 (a0 + 32)] : List Int))) else ((tremaref02_in.f a0 1024 1039).bind fun t344 => (if t344 = true then (some (([wrap32 (a0 + 80)] : List Int))) else (if (Int.tmod a0 2) = 0 then ((tremaref02_in.f a0 256 302).bind fun t348 => (if t348 = true then (some (([wrap32 (a0 + 1)] : List Int))) else ((tremaref02_in.f a0 306 310).bind fun t352 => (if t352 = true then (some (([wrap32 (a0 + 1)] : List Int))) else ((tremaref02_in.f a0 330 374).bind fun t356 => (if t356 = true then (some (([wrap32 (a0 + 1)] : List Int))) else ((tremaref02_in.f a0 7680 7828).bind fun t360 => (if t360 = true then (some (([wrap32 (a0 + 1)] : List Int))) else (if (Int.tmod a0 2) = 1 then ((tremaref02_in.f a0 313 327).bind fun t364 => (if t364 = true then (some (([wrap32 (a0 + 1)] : List Int))) else ((tremaref02_in.f a0 377 381).bind fun t368 => (if t368 = true then (some (([wrap32 (a0 + 1)] : List Int))) else (if a0 = 223 then (some (([115, 115] : List Int))) else (if a0 = 7838 then (some (([115, 115] : List Int))) else (if a0 = 304 then (some (([105, 775] : List Int))) else (tremaref02_Fold.l0 k a0 (([181, 376, 383, 837, 902, 962, 8486, 8490, 8491] : List Int)) (([956, 255, 115, 953, 940, 963, 969, 107, 229] : List Int)) 0)))))))) else (if a0 = 223 then (some (([115, 115] : List Int))) else (if a0 = 7838 then (some (([115, 115] : List Int))) else (if a0 = 304 then (some (([105, 775] : List Int))) else (tremaref02_Fold.l0 k a0 (([181, 376, 383, 837, 902, 962, 8486, 8490, 8491] : List Int)) (([956, 255, 115, 953, 940, 963, 969, 107, 229] : List Int)) 0))))))))))))) else (if (Int.tmod a0 2) = 1 then ((tremaref02_in.f a0 313 327).bind fun t410 => (if t410 = true then (some (([wrap32 (a0 + 1)] : List Int))) else ((tremaref02_in.f a0 377 381).bind fun t414 => (if t414 = true then (some (([wrap32 (a0 + 1)] : List Int))) else (if a0 = 223 then (some (([115, 115] : List Int))) else (if a0 = 7838 then (some (([115, 115] : List Int))) else (if a0 = 304 then (some (([105, 775] : List Int))) else (tremaref02_Fold.l0 k a0 (([181, 376, 383, 837, 902, 962, 8486, 8490, 8491] : List Int)) (([956, 255, 115, 953, 940, 963, 969, 107, 229] : List Int)) 0)))))))) else (if a0 = 223 then (some (([115, 115] : List Int))) else (if a0 = 7838 then (some (([115, 115] : List Int))) else (if a0 = 304 then (some (([105, 775] : List Int))) else (tremaref02_Fold.l0 k a0 (([181, 376, 383, 837, 902, 962, 8486, 8490, 8491] : List Int)) (([956, 255, 115, 953, 940, 963, 969, 107, 229] : List Int)) 0)))))))))))))))) = some r := by rw [if_neg (show ¬ (false = true) by decide)] at H; exact H
   clear H
   have H := H1
   clear H1
   replace H := Option.bind_eq_some_iff.mp H
   obtain ⟨t328, A100, H⟩ := H
   replace H : (if t328 = true then (some (([wrap32 (a0 + 32)] : List Int))) else ((tremaref02_in.f a0 913 929).bind fun t332 => (if t332 = true then (some (([wrap32 (a0 + 32)] : List Int))) else ((tremaref02_in.f a0 931 937).bind fun t336 => (if t336 = true then (some (([wrap32 (a0 + 32)] : List Int))) else ((tremaref02_in.f a0 1040 1071).bind fun t340 => (if t340 = true then (some (([wrap32 (a0 + 32)] : List Int))) else ((tremaref02_in.f a0 1024 1039).bind fun t344 => (if t344 = true then (some (([wrap32 (a0 + 80)] : List Int))) else (if (Int.tmod a0 2) = 0 then ((tremaref02_in.f a0 256 302).bind fun t348 => (if t348 = true then (some (([wrap32 (a0 + 1)] : List Int))) else ((tremaref02_in.f a0 306 310).bind fun t352 => (if t352 = true then (some (([wrap32 (a0 + 1)] : List Int))) else ((tremaref02_in.f a0 330 374).bind fun t356 => (if t356 = true then (some (([wrap32 (a0 + 1)] : List Int))) else ((tremaref02_in.f a0 7680 7828).bind fun t360 => (if t360 = true then (some (([wrap32 (a0 + 1)] : List Int))) else (if (Int.tmod a0 2) = 1 then ((tremaref02_in.f a0 313 327).bind fun t364 => (if t364 = true then (some (([wrap32 (a0 + 1)] : List Int))) else ((tremaref02_in.f a0 377 381).bind fun t368 => (if t368 = true then (some (([wrap32 (a0 + 1)] : List Int))) else (if a0 = 223 then (some (([115, 115] : List Int))) else (if a0 = 7838 then (some (([115, 115] : List Int))) else (if a0 = 304 then (some (([105, 775] : List Int))) else (tremaref02_Fold.l0 k a0 (([181, 376, 383, 837, 902, 962, 8486, 8490, 8491] : List Int)) (([956, 255, 115, 953, 940, 963, 969, 107, 229] : List Int)) 0)))))))) else (if a0 = 223 then (some (([115, 115] : List Int))) else (if a0 = 7838 then (some (([115, 115] : List Int))) else (if a0 = 304 then (some (([105, 775] : List Int))) else (tremaref02_Fold.l0 k a0 (([181, 376, 383, 837, 902, 962, 8486, 8490, 8491] : List Int)) (([956, 255, 115, 953, 940, 963, 969, 107, 229] : List Int)) 0))))))))))))) else (if (Int.tmod a0 2) = 1 then ((tremaref02_in.f a0 313 327).bind fun t410 => (if t410 = true then (some (([wrap32 (a0 + 1)] : List Int))) else ((tremaref02_in.f a0 377 381).bind fun t414 => (if t414 = true then (some (([wrap32 (a0 + 1)] : List Int))) else (if a0 = 223 then (some (([115, 115] : List Int))) else (if a0 = 7838 then (some (([115, 115] : List Int))) else (if a0 = 304 then (some (([105, 775] : List Int))) else (tremaref02_Fold.l0 k a0 (([181, 376, 383, 837, 902, 962, 8486, 8490, 8491] : List Int)) (([956, 255, 115, 953, 940, 963, 969, 107, 229] : List Int)) 0)))))))) else (if a0 = 223 then (some (([115, 115] : List Int))) else (if a0 = 7838 then (some (([115, 115] : List Int))) else (if a0 = 304 then (some (([105, 775] : List Int))) else (tremaref02_Fold.l0 k a0 (([181, 376, 383, 837, 902, 962, 8486, 8490, 8491] : List Int)) (([956, 255, 115, 953, 940, 963, 969, 107, 229] : List Int)) 0))))))))))))))) = some r := H
   have A10 := Aside0.mk A100
   clear A100
   by_cases c11 : t328 = true
   ·subst c11
    have H1 : (some (([wrap32 (a0 + 32)] : List Int))) = some r := by rw [if_pos rfl] at H; exact H
    clear H
    have H := H1
    clear H1
    obtain ⟨y329, hy329⟩ : ∃ y_ : List Int, y_ = (([wrap32 (a0 + 32)] : List Int)) := ⟨_, rfl⟩
    replace H : (some y329) = some r := by first | (rw [hy329]; with_reducible exact H) | (have H2_ := (Option.bind_some _ _).symm.trans H; rw [hy329]; with_reducible exact H2_) | (have H2_ := (Option.bind_some _ _).symm.trans H; with_reducible exact H2_) | with_reducible exact H | (rw [hy329]; exact H) | exact H
    have Ny329 := Aside0.mk hy329
    clear hy329
    obtain rfl := Option.some.inj H
    go_enter Tryd.func26, Tryd.ntmps26
    go_wp2_with (first | ((with_reducible refine gate_callee (f := 31) rfl ?_); refine goesL_ (some 16) rfl rfl Tryd.func31 (by kernel_rfl) rfl #[.int .i32 a0, .int .i32 65, .int .i32 90] rfl (by (try simp only [List.map_toArray, List.map_cons, List.map_nil]); first | done | rfl | (simp only [List.length_drop, List.length_take]; rfl)) ?_; (with_reducible refine (tremaref02_in.calls a0 65 90 false _ A2.out).mono ?_); rintro e w' ⟨rfl, ⟨nd, rfl⟩⟩; refine ⟨_, rfl, ?_⟩) | (go_at_call 31; (with_reducible refine (tremaref02_in.calls a0 192 214 false _ A6.out).mono ?_); rintro e w' ⟨rfl, ⟨nd, rfl⟩⟩) | (go_at_call 31; (with_reducible refine (tremaref02_in.calls a0 216 222 true _ A10.out).mono ?_); rintro e w' ⟨rfl, ⟨nd, rfl⟩⟩) | ((with_reducible refine gate_dst (N := 39) rfl ?_); refine Kd.R_lit (Kd.int .i32) _ 21 ?hg (N := 39) ?hd (xs := ([wrap32 (a0 + 32)] : List Int)) (inner := [.int .i32 (wrap32 (a0 + 32))]) (ok := fun _ => True) (okp := fun _ => True) ?hr ?hp (fun _ hk => hk) trivial (Below.refl _ _) (Nat.le_refl _) (by simp) ?_; (case hd => rfl); (case hg => rfl); (case hr => first | (go_simp; done) | (go_simp; rfl)); (case hp => exact (Reps.one (show Kd.M (Kd.int .i32) _ _ _ (wrap32 (a0 + 32)) [.int .i32 (wrap32 (a0 + 32))] from rfl) (Reps.none _ _))); intro v330 w12 ho13 hb hg_ hnew_; clear hg_ hnew_; (first | rw [← Ny329.out] at ho13 | (simp only [Int.reduceToNat] at ho13; rw [← Ny329.out] at ho13)); have n0_ := Aside0.mk (Kd.R_lower ho13 (below_size (by repeat (first | (with_reducible first | exact HB.out | apply below_alloc | apply pw_below_drewN | apply below_drew1) | exact HB.out)))); have n1_ := Aside0.mk (below_step (by repeat (first | (with_reducible first | exact HB.out | apply below_alloc | apply pw_below_drewN | apply below_drew1) | exact HB.out)) hb); clear HB; have HO331 := n0_; have HB := n1_; clear n0_ n1_; clear hb ho13))
    go_ret
    exact ⟨_, by first | rfl | (simp [errW_none, errW_some] <;> rfl) | (simp [*, errW_none, errW_some] <;> rfl), by (with_reducible repeat (first | apply Kd.R_alloc | apply Kd.R_drewN | apply Kd.R_drew)); exact HO331.out, by repeat (first | (with_reducible first | exact HB.out | apply below_alloc | apply pw_below_drewN | apply below_drew1) | exact HB.out)⟩
   ·replace c11 := Bool.eq_false_iff.mpr c11
    subst c11
    have H1 : ((tremaref02_in.f a0 913 929).bind fun t332 => (if t332 = true then (some (([wrap32 (a0 + 32)] : List Int))) else ((tremaref02_in.f a0 931 937).bind fun t336 => (if t336 = true then (some (([wrap32 (a0 + 32)] : List Int))) else ((tremaref02_in.f a0 1040 1071).bind fun t340 => (if t340 = true then (some (([wrap32 (a0 + 32)] : List Int))) else ((tremaref02_in.f a0 1024 1039).bind fun t344 => (if t344 = true then (some (([wrap32 (a0 + 80)] : List Int))) else (if (Int.tmod a0 2) = 0 then ((tremaref02_in.f a0 256 302).bind fun t348 => (if t348 = true then (some (([wrap32 (a0 + 1)] : List Int))) else ((tremaref02_in.f a0 306 310).bind fun t352 => (if t352 = true then (some (([wrap32 (a0 + 1)] : List Int))) else ((tremaref02_in.f a0 330 374).bind fun t356 => (if t356 = true then (some (([wrap32 (a0 + 1)] : List Int))) else ((tremaref02_in.f a0 7680 7828).bind fun t360 => (if t360 = true then (some (([wrap32 (a0 + 1)] : List Int))) else (if (Int.tmod a0 2) = 1 then ((tremaref02_in.f a0 313 327).bind fun t364 => (if t364 = true then (some (([wrap32 (a0 + 1)] : List Int))) else ((tremaref02_in.f a0 377 381).bind fun t368 => (if t368 = true then (some (([wrap32 (a0 + 1)] : List Int))) else (if a0 = 223 then (some (([115, 115] : List Int))) else (if a0 = 7838 then (some (([115, 115] : List Int))) else (if a0 = 304 then (some (([105, 775] : List Int))) else (tremaref02_Fold.l0 k a0 (([181, 376, 383, 837, 902, 962, 8486, 8490, 8491] : List Int)) (([956, 255, 115, 953, 940, 963, 969, 107, 229] : List Int)) 0)))))))) else (if a0 = 223 then (some (([115, 115] : List Int))) else (if a0 = 7838 then (some (([115, 115] : List Int))) else (if a0 = 304 then (some (([105, 775] : List Int))) else (tremaref02_Fold.l0 k a0 (([181, 376, 383, 837, 902, 962, 8486, 8490, 8491] : List Int)) (([956, 255, 115, 953, 940, 963, 969, 107, 229] : List Int)) 0))))))))))))) else (if (Int.tmod a0 2) = 1 then ((tremaref02_in.f a0 313 327).bind fun t410 => (if t410 = true then (some (([wrap32 (a0 + 1)] : List Int))) else ((tremaref02_in.f a0 377 381).bind fun t414 => (if t414 = true then (some (([wrap32 (a0 + 1)] : List Int))) else (if a0 = 223 then (some (([115, 115] : List Int))) else (if a0 = 7838 then (some (([115, 115] : List Int))) else (if a0 = 304 then (some (([105, 775] : List Int))) else (tremaref02_Fold.l0 k a0 (([181, 376, 383, 837, 902, 962, 8486, 8490, 8491] : List Int)) (([956, 255, 115, 953, 940, 963, 969, 107, 229] : List Int)) 0)))))))) else (if a0 = 223 then (some (([115, 115] : List Int))) else (if a0 = 7838 then (some (([115, 115] : List Int))) else (if a0 = 304 then (some (([105, 775] : List Int))) else (tremaref02_Fold.l0 k a0 (([181, 376, 383, 837, 902, 962, 8486, 8490, 8491] : List Int)) (([956, 255, 115, 953, 940, 963, 969, 107, 229] : List Int)) 0)))))))))))))) = some r := by rw [if_neg (show ¬ (false = true) by decide)] at H; exact H
    clear H
    have H := H1
    clear H1
    replace H := Option.bind_eq_some_iff.mp H
    obtain ⟨t332, A140, H⟩ := H
    replace H : (if t332 = true then (some (([wrap32 (a0 + 32)] : List Int))) else ((tremaref02_in.f a0 931 937).bind fun t336 => (if t336 = true then (some (([wrap32 (a0 + 32)] : List Int))) else ((tremaref02_in.f a0 1040 1071).bind fun t340 => (if t340 = true then (some (([wrap32 (a0 + 32)] : List Int))) else ((tremaref02_in.f a0 1024 1039).bind fun t344 => (if t344 = true then (some (([wrap32 (a0 + 80)] : List Int))) else (if (Int.tmod a0 2) = 0 then ((tremaref02_in.f a0 256 302).bind fun t348 => (if t348 = true then (some (([wrap32 (a0 + 1)] : List Int))) else ((tremaref02_in.f a0 306 310).bind fun t352 => (if t352 = true then (some (([wrap32 (a0 + 1)] : List Int))) else ((tremaref02_in.f a0 330 374).bind fun t356 => (if t356 = true then (some (([wrap32 (a0 + 1)] : List Int))) else ((tremaref02_in.f a0 7680 7828).bind fun t360 => (if t360 = true then (some (([wrap32 (a0 + 1)] : List Int))) else (if (Int.tmod a0 2) = 1 then ((tremaref02_in.f a0 313 327).bind fun t364 => (if t364 = true then (some (([wrap32 (a0 + 1)] : List Int))) else ((tremaref02_in.f a0 377 381).bind fun t368 => (if t368 = true then (some (([wrap32 (a0 + 1)] : List Int))) else (if a0 = 223 then (some (([115, 115] : List Int))) else (if a0 = 7838 then (some (([115, 115] : List Int))) else (if a0 = 304 then (some (([105, 775] : List Int))) else (tremaref02_Fold.l0 k a0 (([181, 376, 383, 837, 902, 962, 8486, 8490, 8491] : List Int)) (([956, 255, 115, 953, 940, 963, 969, 107, 229] : List Int)) 0)))))))) else (if a0 = 223 then (some (([115, 115] : List Int))) else (if a0 = 7838 then (some (([115, 115] : List Int))) else (if a0 = 304 then (some (([105, 775] : List Int))) else (tremaref02_Fold.l0 k a0 (([181, 376, 383, 837, 902, 962, 8486, 8490, 8491] : List Int)) (([956, 255, 115, 953, 940, 963, 969, 107, 229] : List Int)) 0))))))))))))) else (if (Int.tmod a0 2) = 1 then ((tremaref02_in.f a0 313 327).bind fun t410 => (if t410 = true then (some (([wrap32 (a0 + 1)] : List Int))) else ((tremaref02_in.f a0 377 381).bind fun t414 => (if t414 = true then (some (([wrap32 (a0 + 1)] : List Int))) else (if a0 = 223 then (some (([115, 115] : List Int))) else (if a0 = 7838 then (some (([115, 115] : List Int))) else (if a0 = 304 then (some (([105, 775] : List Int))) else (tremaref02_Fold.l0 k a0 (([181, 376, 383, 837, 902, 962, 8486, 8490, 8491] : List Int)) (([956, 255, 115, 953, 940, 963, 969, 107, 229] : List Int)) 0)))))))) else (if a0 = 223 then (some (([115, 115] : List Int))) else (if a0 = 7838 then (some (([115, 115] : List Int))) else (if a0 = 304 then (some (([105, 775] : List Int))) else (tremaref02_Fold.l0 k a0 (([181, 376, 383, 837, 902, 962, 8486, 8490, 8491] : List Int)) (([956, 255, 115, 953, 940, 963, 969, 107, 229] : List Int)) 0))))))))))))) = some r := H
    have A14 := Aside0.mk A140
    clear A140
    by_cases c15 : t332 = true
    ·subst c15
     have H1 : (some (([wrap32 (a0 + 32)] : List Int))) = some r := by rw [if_pos rfl] at H; exact H
     clear H
     have H := H1
     clear H1
     obtain ⟨y333, hy333⟩ : ∃ y_ : List Int, y_ = (([wrap32 (a0 + 32)] : List Int)) := ⟨_, rfl⟩
     replace H : (some y333) = some r := by first | (rw [hy333]; with_reducible exact H) | (have H2_ := (Option.bind_some _ _).symm.trans H; rw [hy333]; with_reducible exact H2_) | (have H2_ := (Option.bind_some _ _).symm.trans H; with_reducible exact H2_) | with_reducible exact H | (rw [hy333]; exact H) | exact H
     have Ny333 := Aside0.mk hy333
     clear hy333
     obtain rfl := Option.some.inj H
     go_enter Tryd.func26, Tryd.ntmps26
     go_wp2_with (first | ((with_reducible refine gate_callee (f := 31) rfl ?_); refine goesL_ (some 16) rfl rfl Tryd.func31 (by kernel_rfl) rfl #[.int .i32 a0, .int .i32 65, .int .i32 90] rfl (by (try simp only [List.map_toArray, List.map_cons, List.map_nil]); first | done | rfl | (simp only [List.length_drop, List.length_take]; rfl)) ?_; (with_reducible refine (tremaref02_in.calls a0 65 90 false _ A2.out).mono ?_); rintro e w' ⟨rfl, ⟨nd, rfl⟩⟩; refine ⟨_, rfl, ?_⟩) | (go_at_call 31; (with_reducible refine (tremaref02_in.calls a0 192 214 false _ A6.out).mono ?_); rintro e w' ⟨rfl, ⟨nd, rfl⟩⟩) | (go_at_call 31; (with_reducible refine (tremaref02_in.calls a0 216 222 false _ A10.out).mono ?_); rintro e w' ⟨rfl, ⟨nd, rfl⟩⟩) | (go_at_call 31; (with_reducible refine (tremaref02_in.calls a0 913 929 true _ A14.out).mono ?_); rintro e w' ⟨rfl, ⟨nd, rfl⟩⟩) | ((with_reducible refine gate_dst (N := 39) rfl ?_); refine Kd.R_lit (Kd.int .i32) _ 21 ?hg (N := 39) ?hd (xs := ([wrap32 (a0 + 32)] : List Int)) (inner := [.int .i32 (wrap32 (a0 + 32))]) (ok := fun _ => True) (okp := fun _ => True) ?hr ?hp (fun _ hk => hk) trivial (Below.refl _ _) (Nat.le_refl _) (by simp) ?_; (case hd => rfl); (case hg => rfl); (case hr => first | (go_simp; done) | (go_simp; rfl)); (case hp => exact (Reps.one (show Kd.M (Kd.int .i32) _ _ _ (wrap32 (a0 + 32)) [.int .i32 (wrap32 (a0 + 32))] from rfl) (Reps.none _ _))); intro v334 w16 ho17 hb hg_ hnew_; clear hg_ hnew_; (first | rw [← Ny333.out] at ho17 | (simp only [Int.reduceToNat] at ho17; rw [← Ny333.out] at ho17)); have n0_ := Aside0.mk (Kd.R_lower ho17 (below_size (by repeat (first | (with_reducible first | exact HB.out | apply below_alloc | apply pw_below_drewN | apply below_drew1) | exact HB.out)))); have n1_ := Aside0.mk (below_step (by repeat (first | (with_reducible first | exact HB.out | apply below_alloc | apply pw_below_drewN | apply below_drew1) | exact HB.out)) hb); clear HB; have HO335 := n0_; have HB := n1_; clear n0_ n1_; clear hb ho17))
     go_ret
     exact ⟨_, by first | rfl | (simp [errW_none, errW_some] <;> rfl) | (simp [*, errW_none, errW_some] <;> rfl), by (with_reducible repeat (first | apply Kd.R_alloc | apply Kd.R_drewN | apply Kd.R_drew)); exact HO335.out, by repeat (first | (with_reducible first | exact HB.out | apply below_alloc | apply pw_below_drewN | apply below_drew1) | exact HB.out)⟩
    ·replace c15 := Bool.eq_false_iff.mpr c15
     subst c15
     have H1 : ((tremaref02_in.f a0 931 937).bind fun t336 => (if t336 = true then (some (([wrap32 (a0 + 32)] : List Int))) else ((tremaref02_in.f a0 1040 1071).bind fun t340 => (if t340 = true then (some (([wrap32 (a0 + 32)] : List Int))) else ((tremaref02_in.f a0 1024 1039).bind fun t344 => (if t344 = true then (some (([wrap32 (a0 + 80)] : List Int))) else (if (Int.tmod a0 2) = 0 then ((tremaref02_in.f a0 256 302).bind fun t348 => (if t348 = true then (some (([wrap32 (a0 + 1)] : List Int))) else ((tremaref02_in.f a0 306 310).bind fun t352 => (if t352 = true then (some (([wrap32 (a0 + 1)] : List Int))) else ((tremaref02_in.f a0 330 374).bind fun t356 => (if t356 = true then (some (([wrap32 (a0 + 1)] : List Int))) else ((tremaref02_in.f a0 7680 7828).bind fun t360 => (if t360 = true then (some (([wrap32 (a0 + 1)] : List Int))) else (if (Int.tmod a0 2) = 1 then ((tremaref02_in.f a0 313 327).bind fun t364 => (if t364 = true then (some (([wrap32 (a0 + 1)] : List Int))) else ((tremaref02_in.f a0 377 381).bind fun t368 => (if t368 = true then (some (([wrap32 (a0 + 1)] : List Int))) else (if a0 = 223 then (some (([115, 115] : List Int))) else (if a0 = 7838 then (some (([115, 115] : List Int))) else (if a0 = 304 then (some (([105, 775] : List Int))) else (tremaref02_Fold.l0 k a0 (([181, 376, 383, 837, 902, 962, 8486, 8490, 8491] : List Int)) (([956, 255, 115, 953, 940, 963, 969, 107, 229] : List Int)) 0)))))))) else (if a0 = 223 then (some (([115, 115] : List Int))) else (if a0 = 7838 then (some (([115, 115] : List Int))) else (if a0 = 304 then (some (([105, 775] : List Int))) else (tremaref02_Fold.l0 k a0 (([181, 376, 383, 837, 902, 962, 8486, 8490, 8491] : List Int)) (([956, 255, 115, 953, 940, 963, 969, 107, 229] : List Int)) 0))))))))))))) else (if (Int.tmod a0 2) = 1 then ((tremaref02_in.f a0 313 327).bind fun t410 => (if t410 = true then (some (([wrap32 (a0 + 1)] : List Int))) else ((tremaref02_in.f a0 377 381).bind fun t414 => (if t414 = true then (some (([wrap32 (a0 + 1)] : List Int))) else (if a0 = 223 then (some (([115, 115] : List Int))) else (if a0 = 7838 then (some (([115, 115] : List Int))) else (if a0 = 304 then (some (([105, 775] : List Int))) else (tremaref02_Fold.l0 k a0 (([181, 376, 383, 837, 902, 962, 8486, 8490, 8491] : List Int)) (([956, 255, 115, 953, 940, 963, 969, 107, 229] : List Int)) 0)))))))) else (if a0 = 223 then (some (([115, 115] : List Int))) else (if a0 = 7838 then (some (([115, 115] : List Int))) else (if a0 = 304 then (some (([105, 775] : List Int))) else (tremaref02_Fold.l0 k a0 (([181, 376, 383, 837, 902, 962, 8486, 8490, 8491] : List Int)) (([956, 255, 115, 953, 940, 963, 969, 107, 229] : List Int)) 0)))))))))))) = some r := by rw [if_neg (show ¬ (false = true) by decide)] at H; exact H
     clear H
     have H := H1
     clear H1
     replace H := Option.bind_eq_some_iff.mp H
     obtain ⟨t336, A180, H⟩ := H
     replace H : (if t336 = true then (some (([wrap32 (a0 + 32)] : List Int))) else ((tremaref02_in.f a0 1040 1071).bind fun t340 => (if t340 = true then (some (([wrap32 (a0 + 32)] : List Int))) else ((tremaref02_in.f a0 1024 1039).bind fun t344 => (if t344 = true then (some (([wrap32 (a0 + 80)] : List Int))) else (if (Int.tmod a0 2) = 0 then ((tremaref02_in.f a0 256 302).bind fun t348 => (if t348 = true then (some (([wrap32 (a0 + 1)] : List Int))) else ((tremaref02_in.f a0 306 310).bind fun t352 => (if t352 = true then (some (([wrap32 (a0 + 1)] : List Int))) else ((tremaref02_in.f a0 330 374).bind fun t356 => (if t356 = true then (some (([wrap32 (a0 + 1)] : List Int))) else ((tremaref02_in.f a0 7680 7828).bind fun t360 => (if t360 = true then (some (([wrap32 (a0 + 1)] : List Int))) else (if (Int.tmod a0 2) = 1 then ((tremaref02_in.f a0 313 327).bind fun t364 => (if t364 = true then (some (([wrap32 (a0 + 1)] : List Int))) else ((tremaref02_in.f a0 377 381).bind fun t368 => (if t368 = true then (some (([wrap32 (a0 + 1)] : List Int))) else (if a0 = 223 then (some (([115, 115] : List Int))) else (if a0 = 7838 then (some (([115, 115] : List Int))) else (if a0 = 304 then (some (([105, 775] : List Int))) else (tremaref02_Fold.l0 k a0 (([181, 376, 383, 837, 902, 962, 8486, 8490, 8491] : List Int)) (([956, 255, 115, 953, 940, 963, 969, 107, 229] : List Int)) 0)))))))) else (if a0 = 223 then (some (([115, 115] : List Int))) else (if a0 = 7838 then (some (([115, 115] : List Int))) else (if a0 = 304 then (some (([105, 775] : List Int))) else (tremaref02_Fold.l0 k a0 (([181, 376, 383, 837, 902, 962, 8486, 8490, 8491] : List Int)) (([956, 255, 115, 953, 940, 963, 969, 107, 229] : List Int)) 0))))))))))))) else (if (Int.tmod a0 2) = 1 then ((tremaref02_in.f a0 313 327).bind fun t410 => (if t410 = true then (some (([wrap32 (a0 + 1)] : List Int))) else ((tremaref02_in.f a0 377 381).bind fun t414 => (if t414 = true then (some (([wrap32 (a0 + 1)] : List Int))) else (if a0 = 223 then (some (([115, 115] : List Int))) else (if a0 = 7838 then (some (([115, 115] : List Int))) else (if a0 = 304 then (some (([105, 775] : List Int))) else (tremaref02_Fold.l0 k a0 (([181, 376, 383, 837, 902, 962, 8486, 8490, 8491] : List Int)) (([956, 255, 115, 953, 940, 963, 969, 107, 229] : List Int)) 0)))))))) else (if a0 = 223 then (some (([115, 115] : List Int))) else (if a0 = 7838 then (some (([115, 115] : List Int))) else (if a0 = 304 then (some (([105, 775] : List Int))) else (tremaref02_Fold.l0 k a0 (([181, 376, 383, 837, 902, 962, 8486, 8490, 8491] : List Int)) (([956, 255, 115, 953, 940, 963, 969, 107, 229] : List Int)) 0))))))))))) = some r := H
     have A18 := Aside0.mk A180
     clear A180
     by_cases c19 : t336 = true
     ·subst c19
      have H1 : (some (([wrap32 (a0 + 32)] : List Int))) = some r := by rw [if_pos rfl] at H; exact H
      clear H
      have H := H1
      clear H1
      obtain ⟨y337, hy337⟩ : ∃ y_ : List Int, y_ = (([wrap32 (a0 + 32)] : List Int)) := ⟨_, rfl⟩
      replace H : (some y337) = some r := by first | (rw [hy337]; with_reducible exact H) | (have H2_ := (Option.bind_some _ _).symm.trans H; rw [hy337]; with_reducible exact H2_) | (have H2_ := (Option.bind_some _ _).symm.trans H; with_reducible exact H2_) | with_reducible exact H | (rw [hy337]; exact H) | exact H
      have Ny337 := Aside0.mk hy337
      clear hy337
      obtain rfl := Option.some.inj H
      go_enter Tryd.func26, Tryd.ntmps26
      go_wp2_with (first | ((with_reducible refine gate_callee (f := 31) rfl ?_); refine goesL_ (some 16) rfl rfl Tryd.func31 (by kernel_rfl) rfl #[.int .i32 a0, .int .i32 65, .int .i32 90] rfl (by (try simp only [List.map_toArray, List.map_cons, List.map_nil]); first | done | rfl | (simp only [List.length_drop, List.length_take]; rfl)) ?_; (with_reducible refine (tremaref02_in.calls a0 65 90 false _ A2.out).mono ?_); rintro e w' ⟨rfl, ⟨nd, rfl⟩⟩; refine ⟨_, rfl, ?_⟩) | (go_at_call 31; (with_reducible refine (tremaref02_in.calls a0 192 214 false _ A6.out).mono ?_); rintro e w' ⟨rfl, ⟨nd, rfl⟩⟩) | (go_at_call 31; (with_reducible refine (tremaref02_in.calls a0 216 222 false _ A10.out).mono ?_); rintro e w' ⟨rfl, ⟨nd, rfl⟩⟩) | (go_at_call 31; (with_reducible refine (tremaref02_in.calls a0 913 929 false _ A14.out).mono ?_); rintro e w' ⟨rfl, ⟨nd, rfl⟩⟩) | (go_at_call 31; (with_reducible refine (tremaref02_in.calls a0 931 937 true _ A18.out).mono ?_); rintro e w' ⟨rfl, ⟨nd, rfl⟩⟩) | ((with_reducible refine gate_dst (N := 39) rfl ?_); refine Kd.R_lit (Kd.int .i32) _ 21 ?hg (N := 39) ?hd (xs := ([wrap32 (a0 + 32)] : List Int)) (inner := [.int .i32 (wrap32 (a0 + 32))]) (ok := fun _ => True) (okp := fun _ => True) ?hr ?hp (fun _ hk => hk) trivial (Below.refl _ _) (Nat.le_refl _) (by simp) ?_; (case hd => rfl); (case hg => rfl); (case hr => first | (go_simp; done) | (go_simp; rfl)); (case hp => exact (Reps.one (show Kd.M (Kd.int .i32) _ _ _ (wrap32 (a0 + 32)) [.int .i32 (wrap32 (a0 + 32))] from rfl) (Reps.none _ _))); intro v338 w20 ho21 hb hg_ hnew_; clear hg_ hnew_; (first | rw [← Ny337.out] at ho21 | (simp only [Int.reduceToNat] at ho21; rw [← Ny337.out] at ho21)); have n0_ := Aside0.mk (Kd.R_lower ho21 (below_size (by repeat (first | (with_reducible first | exact HB.out | apply below_alloc | apply pw_below_drewN | apply below_drew1) | exact HB.out)))); have n1_ := Aside0.mk (below_step (by repeat (first | (with_reducible first | exact HB.out | apply below_alloc | apply pw_below_drewN | apply below_drew1) | exact HB.out)) hb); clear HB; have HO339 := n0_; have HB := n1_; clear n0_ n1_; clear hb ho21))
      go_ret
      exact ⟨_, by first | rfl | (simp [errW_none, errW_some] <;> rfl) | (simp [*, errW_none, errW_some] <;> rfl), by (with_reducible repeat (first | apply Kd.R_alloc | apply Kd.R_drewN | apply Kd.R_drew)); exact HO339.out, by repeat (first | (with_reducible first | exact HB.out | apply below_alloc | apply pw_below_drewN | apply below_drew1) | exact HB.out)⟩
     ·replace c19 := Bool.eq_false_iff.mpr c19
      subst c19
      have H1 : ((tremaref02_in.f a0 1040 1071).bind fun t340 => (if t340 = true then (some (([wrap32 (a0 + 32)] : List Int))) else ((tremaref02_in.f a0 1024 1039).bind fun t344 => (if t344 = true then (some (([wrap32 (a0 + 80)] : List Int))) else (if (Int.tmod a0 2) = 0 then ((tremaref02_in.f a0 256 302).bind fun t348 => (if t348 = true then (some (([wrap32 (a0 + 1)] : List Int))) else ((tremaref02_in.f a0 306 310).bind fun t352 => (if t352 = true then (some (([wrap32 (a0 + 1)] : List Int))) else ((tremaref02_in.f a0 330 374).bind fun t356 => (if t356 = true then (some (([wrap32 (a0 + 1)] : List Int))) else ((tremaref02_in.f a0 7680 7828).bind fun t360 => (if t360 = true then (some (([wrap32 (a0 + 1)] : List Int))) else (if (Int.tmod a0 2) = 1 then ((tremaref02_in.f a0 313 327).bind fun t364 => (if t364 = true then (some (([wrap32 (a0 + 1)] : List Int))) else ((tremaref02_in.f a0 377 381).bind fun t368 => (if t368 = true then (some (([wrap32 (a0 + 1)] : List Int))) else (if a0 = 223 then (some (([115, 115] : List Int))) else (if a0 = 7838 then (some (([115, 115] : List Int))) else (if a0 = 304 then (some (([105, 775] : List Int))) else (tremaref02_Fold.l0 k a0 (([181, 376, 383, 837, 902, 962, 8486, 8490, 8491] : List Int)) (([956, 255, 115, 953, 940, 963, 969, 107, 229] : List Int)) 0)))))))) else (if a0 = 223 then (some (([115, 115] : List Int))) else (if a0 = 7838 then (some (([115, 115] : List Int))) else (if a0 = 304 then (some (([105, 775] : List Int))) else (tremaref02_Fold.l0 k a0 (([181, 376, 383, 837, 902, 962, 8486, 8490, 8491] : List Int)) (([956, 255, 115, 953, 940, 963, 969, 107, 229] : List Int)) 0))))))))))))) else (if (Int.tmod a0 2) = 1 then ((tremaref02_in.f a0 313 327).bind fun t410 => (if t410 = true then (some (([wrap32 (a0 + 1)] : List Int))) else ((tremaref02_in.f a0 377 381).bind fun t414 => (if t414 = true then (some (([wrap32 (a0 + 1)] : List Int))) else (if a0 = 223 then (some (([115, 115] : List Int))) else (if a0 = 7838 then (some (([115, 115] : List Int))) else (if a0 = 304 then (some (([105, 775] : List Int))) else (tremaref02_Fold.l0 k a0 (([181, 376, 383, 837, 902, 962, 8486, 8490, 8491] : List Int)) (([956, 255, 115, 953, 940, 963, 969, 107, 229] : List Int)) 0)))))))) else (if a0 = 223 then (some (([115, 115] : List Int))) else (if a0 = 7838 then (some (([115, 115] : List Int))) else (if a0 = 304 then (some (([105, 775] : List Int))) else (tremaref02_Fold.l0 k a0 (([181, 376, 383, 837, 902, 962, 8486, 8490, 8491] : List Int)) (([956, 255, 115, 953, 940, 963, 969, 107, 229] : List Int)) 0)))))))))) = some r := by rw [if_neg (show ¬ (false = true) by decide)] at H; exact H
      clear H
      have H := H1
      clear H1
      replace H := Option.bind_eq_some_iff.mp H
      obtain ⟨t340, A220, H⟩ := H
      replace H : (if t340 = true then (some (([wrap32 (a0 + 32)] : List Int))) else ((tremaref02_in.f a0 1024 1039).bind fun t344 => (if t344 = true then (some (([wrap32 (a0 + 80)] : List Int))) else (if (Int.tmod a0 2) = 0 then ((tremaref02_in.f a0 256 302).bind fun t348 => (if t348 = true then (some (([wrap32 (a0 + 1)] : List Int))) else ((tremaref02_in.f a0 306 310).bind fun t352 => (if t352 = true then (some (([wrap32 (a0 + 1)] : List Int))) else ((tremaref02_in.f a0 330 374).bind fun t356 => (if t356 = true then (some (([wrap32 (a0 + 1)] : List Int))) else ((tremaref02_in.f a0 7680 7828).bind fun t360 => (if t360 = true then (some (([wrap32 (a0 + 1)] : List Int))) else (if (Int.tmod a0 2) = 1 then ((tremaref02_in.f a0 313 327).bind fun t364 => (if t364 = true then (some (([wrap32 (a0 + 1)] : List Int))) else ((tremaref02_in.f a0 377 381).bind fun t368 => (if t368 = true then (some (([wrap32 (a0 + 1)] : List Int))) else (if a0 = 223 then (some (([115, 115] : List Int))) else (if a0 = 7838 then (some (([115, 115] : List Int))) else (if a0 = 304 then (some (([105, 775] : List Int))) else (tremaref02_Fold.l0 k a0 (([181, 376, 383, 837, 902, 962, 8486, 8490, 8491] : List Int)) (([956, 255, 115, 953, 940, 963, 969, 107, 229] : List Int)) 0)))))))) else (if a0 = 223 then (some (([115, 115] : List Int))) else (if a0 = 7838 then (some (([115, 115] : List Int))) else (if a0 = 304 then (some (([105, 775] : List Int))) else (tremaref02_Fold.l0 k a0 (([181, 376, 383, 837, 902, 962, 8486, 8490, 8491] : List Int)) (([956, 255, 115, 953, 940, 963, 969, 107, 229] : List Int)) 0))))))))))))) else (if (Int.tmod a0 2) = 1 then ((tremaref02_in.f a0 313 327).bind fun t410 => (if t410 = true then (some (([wrap32 (a0 + 1)] : List Int))) else ((tremaref02_in.f a0 377 381).bind fun t414 => (if t414 = true then (some (([wrap32 (a0 + 1)] : List Int))) else (if a0 = 223 then (some (([115, 115] : List Int))) else (if a0 = 7838 then (some (([115, 115] : List Int))) else (if a0 = 304 then (some (([105, 775] : List Int))) else (tremaref02_Fold.l0 k a0 (([181, 376, 383, 837, 902, 962, 8486, 8490, 8491] : List Int)) (([956, 255, 115, 953, 940, 963, 969, 107, 229] : List Int)) 0)))))))) else (if a0 = 223 then (some (([115, 115] : List Int))) else (if a0 = 7838 then (some (([115, 115] : List Int))) else (if a0 = 304 then (some (([105, 775] : List Int))) else (tremaref02_Fold.l0 k a0 (([181, 376, 383, 837, 902, 962, 8486, 8490, 8491] : List Int)) (([956, 255, 115, 953, 940, 963, 969, 107, 229] : List Int)) 0))))))))) = some r := H
      have A22 := Aside0.mk A220
      clear A220
      by_cases c23 : t340 = true
      ·subst c23
       have H1 : (some (([wrap32 (a0 + 32)] : List Int))) = some r := by rw [if_pos rfl] at H; exact H
       clear H
       have H := H1
       clear H1
       obtain ⟨y341, hy341⟩ : ∃ y_ : List Int, y_ = (([wrap32 (a0 + 32)] : List Int)) := ⟨_, rfl⟩
       replace H : (some y341) = some r := by first | (rw [hy341]; with_reducible exact H) | (have H2_ := (Option.bind_some _ _).symm.trans H; rw [hy341]; with_reducible exact H2_) | (have H2_ := (Option.bind_some _ _).symm.trans H; with_reducible exact H2_) | with_reducible exact H | (rw [hy341]; exact H) | exact H
       have Ny341 := Aside0.mk hy341
       clear hy341
       obtain rfl := Option.some.inj H
       go_enter Tryd.func26, Tryd.ntmps26
       go_wp2_with (first | ((with_reducible refine gate_callee (f := 31) rfl ?_); refine goesL_ (some 16) rfl rfl Tryd.func31 (by kernel_rfl) rfl #[.int .i32 a0, .int .i32 65, .int .i32 90] rfl (by (try simp only [List.map_toArray, List.map_cons, List.map_nil]); first | done | rfl | (simp only [List.length_drop, List.length_take]; rfl)) ?_; (with_reducible refine (tremaref02_in.calls a0 65 90 false _ A2.out).mono ?_); rintro e w' ⟨rfl, ⟨nd, rfl⟩⟩; refine ⟨_, rfl, ?_⟩) | (go_at_call 31; (with_reducible refine (tremaref02_in.calls a0 192 214 false _ A6.out).mono ?_); rintro e w' ⟨rfl, ⟨nd, rfl⟩⟩) | (go_at_call 31; (with_reducible refine (tremaref02_in.calls a0 216 222 false _ A10.out).mono ?_); rintro e w' ⟨rfl, ⟨nd, rfl⟩⟩) | (go_at_call 31; (with_reducible refine (tremaref02_in.calls a0 913 929 false _ A14.out).mono ?_); rintro e w' ⟨rfl, ⟨nd, rfl⟩⟩) | (go_at_call 31; (with_reducible refine (tremaref02_in.calls a0 931 937 false _ A18.out).mono ?_); rintro e w' ⟨rfl, ⟨nd, rfl⟩⟩) | (go_at_call 31; (with_reducible refine (tremaref02_in.calls a0 1040 1071 true _ A22.out).mono ?_); rintro e w' ⟨rfl, ⟨nd, rfl⟩⟩) | ((with_reducible refine gate_dst (N := 39) rfl ?_); refine Kd.R_lit (Kd.int .i32) _ 21 ?hg (N := 39) ?hd (xs := ([wrap32 (a0 + 32)] : List Int)) (inner := [.int .i32 (wrap32 (a0 + 32))]) (ok := fun _ => True) (okp := fun _ => True) ?hr ?hp (fun _ hk => hk) trivial (Below.refl _ _) (Nat.le_refl _) (by simp) ?_; (case hd => rfl); (case hg => rfl); (case hr => first | (go_simp; done) | (go_simp; rfl)); (case hp => exact (Reps.one (show Kd.M (Kd.int .i32) _ _ _ (wrap32 (a0 + 32)) [.int .i32 (wrap32 (a0 + 32))] from rfl) (Reps.none _ _))); intro v342 w24 ho25 hb hg_ hnew_; clear hg_ hnew_; (first | rw [← Ny341.out] at ho25 | (simp only [Int.reduceToNat] at ho25; rw [← Ny341.out] at ho25)); have n0_ := Aside0.mk (Kd.R_lower ho25 (below_size (by repeat (first | (with_reducible first | exact HB.out | apply below_alloc | apply pw_below_drewN | apply below_drew1) | exact HB.out)))); have n1_ := Aside0.mk (below_step (by repeat (first | (with_reducible first | exact HB.out | apply below_alloc | apply pw_below_drewN | apply below_drew1) | exact HB.out)) hb); clear HB; have HO343 := n0_; have HB := n1_; clear n0_ n1_; clear hb ho25))
       go_ret
       exact ⟨_, by first | rfl | (simp [errW_none, errW_some] <;> rfl) | (simp [*, errW_none, errW_some] <;> rfl), by (with_reducible repeat (first | apply Kd.R_alloc | apply Kd.R_drewN | apply Kd.R_drew)); exact HO343.out, by repeat (first | (with_reducible first | exact HB.out | apply below_alloc | apply pw_below_drewN | apply below_drew1) | exact HB.out)⟩
      ·replace c23 := Bool.eq_false_iff.mpr c23
       subst c23
       have H1 : ((tremaref02_in.f a0 1024 1039).bind fun t344 => (if t344 = true then (some (([wrap32 (a0 + 80)] : List Int))) else (if (Int.tmod a0 2) = 0 then ((tremaref02_in.f a0 256 302).bind fun t348 => (if t348 = true then (some (([wrap32 (a0 + 1)] : List Int))) else ((tremaref02_in.f a0 306 310).bind fun t352 => (if t352 = true then (some (([wrap32 (a0 + 1)] : List Int))) else ((tremaref02_in.f a0 330 374).bind fun t356 => (if t356 = true then (some (([wrap32 (a0 + 1)] : List Int))) else ((tremaref02_in.f a0 7680 7828).bind fun t360 => (if t360 = true then (some (([wrap32 (a0 + 1)] : List Int))) else (if (Int.tmod a0 2) = 1 then ((tremaref02_in.f a0 313 327).bind fun t364 => (if t364 = true then (some (([wrap32 (a0 + 1)] : List Int))) else ((tremaref02_in.f a0 377 381).bind fun t368 => (if t368 = true then (some (([wrap32 (a0 + 1)] : List Int))) else (if a0 = 223 then (some (([115, 115] : List Int))) else (if a0 = 7838 then (some (([115, 115] : List Int))) else (if a0 = 304 then (some (([105, 775] : List Int))) else (tremaref02_Fold.l0 k a0 (([181, 376, 383, 837, 902, 962, 8486, 8490, 8491] : List Int)) (([956, 255, 115, 953, 940, 963, 969, 107, 229] : List Int)) 0)))))))) else (if a0 = 223 then (some (([115, 115] : List Int))) else (if a0 = 7838 then (some (([115, 115] : List Int))) else (if a0 = 304 then (some (([105, 775] : List Int))) else (tremaref02_Fold.l0 k a0 (([181, 376, 383, 837, 902, 962, 8486, 8490, 8491] : List Int)) (([956, 255, 115, 953, 940, 963, 969, 107, 229] : List Int)) 0))))))))))))) else (if (Int.tmod a0 2) = 1 then ((tremaref02_in.f a0 313 327).bind fun t410 => (if t410 = true then (some (([wrap32 (a0 + 1)] : List Int))) else ((tremaref02_in.f a0 377 381).bind fun t414 => (if t414 = true then (some (([wrap32 (a0 + 1)] : List Int))) else (if a0 = 223 then (some (([115, 115] : List Int))) else (if a0 = 7838 then (some (([115, 115] : List Int))) else (if a0 = 304 then (some (([105, 775] : List Int))) else (tremaref02_Fold.l0 k a0 (([181, 376, 383, 837, 902, 962, 8486, 8490, 8491] : List Int)) (([956, 255, 115, 953, 940, 963, 969, 107, 229] : List Int)) 0)))))))) else (if a0 = 223 then (some (([115, 115] : List Int))) else (if a0 = 7838 then (some (([115, 115] : List Int))) else (if a0 = 304 then (some (([105, 775] : List Int))) else (tremaref02_Fold.l0 k a0 (([181, 376, 383, 837, 902, 962, 8486, 8490, 8491] : List Int)) (([956, 255, 115, 953, 940, 963, 969, 107, 229] : List Int)) 0)))))))) = some r := by rw [if_neg (show ¬ (false = true) by decide)] at H; exact H
       clear H
       have H := H1
       clear H1
       replace H := Option.bind_eq_some_iff.mp H
       obtain ⟨t344, A260, H⟩ := H
       replace H : (if t344 = true then (some (([wrap32 (a0 + 80)] : List Int))) else (if (Int.tmod a0 2) = 0 then ((tremaref02_in.f a0 256 302).bind fun t348 => (if t348 = true then (some (([wrap32 (a0 + 1)] : List Int))) else ((tremaref02_in.f a0 306 310).bind fun t352 => (if t352 = true then (some (([wrap32 (a0 + 1)] : List Int))) else ((tremaref02_in.f a0 330 374).bind fun t356 => (if t356 = true then (some (([wrap32 (a0 + 1)] : List Int))) else ((tremaref02_in.f a0 7680 7828).bind fun t360 => (if t360 = true then (some (([wrap32 (a0 + 1)] : List Int))) else (if (Int.tmod a0 2) = 1 then ((tremaref02_in.f a0 313 327).bind fun t364 => (if t364 = true then (some (([wrap32 (a0 + 1)] : List Int))) else ((tremaref02_in.f a0 377 381).bind fun t368 => (if t368 = true then (some (([wrap32 (a0 + 1)] : List Int))) else (if a0 = 223 then (some (([115, 115] : List Int))) else (if a0 = 7838 then (some (([115, 115] : List Int))) else (if a0 = 304 then (some (([105, 775] : List Int))) else (tremaref02_Fold.l0 k a0 (([181, 376, 383, 837, 902, 962, 8486, 8490, 8491] : List Int)) (([956, 255, 115, 953, 940, 963, 969, 107, 229] : List Int)) 0)))))))) else (if a0 = 223 then (some (([115, 115] : List Int))) else (if a0 = 7838 then (some (([115, 115] : List Int))) else (if a0 = 304 then (some (([105, 775] : List Int))) else (tremaref02_Fold.l0 k a0 (([181, 376, 383, 837, 902, 962, 8486, 8490, 8491] : List Int)) (([956, 255, 115, 953, 940, 963, 969, 107, 229] : List Int)) 0))))))))))))) else (if (Int.tmod a0 2) = 1 then ((tremaref02_in.f a0 313 327).bind fun t410 => (if t410 = true then (some (([wrap32 (a0 + 1)] : List Int))) else ((tremaref02_in.f a0 377 381).bind fun t414 => (if t414 = true then (some (([wrap32 (a0 + 1)] : List Int))) else (if a0 = 223 then (some (([115, 115] : List Int))) else (if a0 = 7838 then (some (([115, 115] : List Int))) else (if a0 = 304 then (some (([105, 775] : List Int))) else (tremaref02_Fold.l0 k a0 (([181, 376, 383, 837, 902, 962, 8486, 8490, 8491] : List Int)) (([956, 255, 115, 953, 940, 963, 969, 107, 229] : List Int)) 0)))))))) else (if a0 = 223 then (some (([115, 115] : List Int))) else (if a0 = 7838 then (some (([115, 115] : List Int))) else (if a0 = 304 then (some (([105, 775] : List Int))) else (tremaref02_Fold.l0 k a0 (([181, 376, 383, 837, 902, 962, 8486, 8490, 8491] : List Int)) (([956, 255, 115, 953, 940, 963, 969, 107, 229] : List Int)) 0))))))) = some r := H
       have A26 := Aside0.mk A260
       clear A260
       by_cases c27 : t344 = true
       ·subst c27
        have H1 : (some (([wrap32 (a0 + 80)] : List Int))) = some r := by rw [if_pos rfl] at H; exact H
        clear H
        have H := H1
        clear H1
        obtain ⟨y345, hy345⟩ : ∃ y_ : List Int, y_ = (([wrap32 (a0 + 80)] : List Int)) := ⟨_, rfl⟩
        replace H : (some y345) = some r := by first | (rw [hy345]; with_reducible exact H) | (have H2_ := (Option.bind_some _ _).symm.trans H; rw [hy345]; with_reducible exact H2_) | (have H2_ := (Option.bind_some _ _).symm.trans H; with_reducible exact H2_) | with_reducible exact H | (rw [hy345]; exact H) | exact H
        have Ny345 := Aside0.mk hy345
        clear hy345
        obtain rfl := Option.some.inj H
        go_enter Tryd.func26, Tryd.ntmps26
        go_wp2_with (first | ((with_reducible refine gate_callee (f := 31) rfl ?_); refine goesL_ (some 16) rfl rfl Tryd.func31 (by kernel_rfl) rfl #[.int .i32 a0, .int .i32 65, .int .i32 90] rfl (by (try simp only [List.map_toArray, List.map_cons, List.map_nil]); first | done | rfl | (simp only [List.length_drop, List.length_take]; rfl)) ?_; (with_reducible refine (tremaref02_in.calls a0 65 90 false _ A2.out).mono ?_); rintro e w' ⟨rfl, ⟨nd, rfl⟩⟩; refine ⟨_, rfl, ?_⟩) | (go_at_call 31; (with_reducible refine (tremaref02_in.calls a0 192 214 false _ A6.out).mono ?_); rintro e w' ⟨rfl, ⟨nd, rfl⟩⟩) | (go_at_call 31; (with_reducible refine (tremaref02_in.calls a0 216 222 false _ A10.out).mono ?_); rintro e w' ⟨rfl, ⟨nd, rfl⟩⟩) | (go_at_call 31; (with_reducible refine (tremaref02_in.calls a0 913 929 false _ A14.out).mono ?_); rintro e w' ⟨rfl, ⟨nd, rfl⟩⟩) | (go_at_call 31; (with_reducible refine (tremaref02_in.calls a0 931 937 false _ A18.out).mono ?_); rintro e w' ⟨rfl, ⟨nd, rfl⟩⟩) | (go_at_call 31; (with_reducible refine (tremaref02_in.calls a0 1040 1071 false _ A22.out).mono ?_); rintro e w' ⟨rfl, ⟨nd, rfl⟩⟩) | ((with_reducible refine gate_callee (f := 31) rfl ?_); refine goesL_ (some 42) rfl rfl Tryd.func31 (by kernel_rfl) rfl #[.int .i32 a0, .int .i32 1024, .int .i32 1039] rfl (by (try simp only [List.map_toArray, List.map_cons, List.map_nil]); first | done | rfl | (simp only [List.length_drop, List.length_take]; rfl)) ?_; (with_reducible refine (tremaref02_in.calls a0 1024 1039 true _ A26.out).mono ?_); rintro e w' ⟨rfl, ⟨nd, rfl⟩⟩; refine ⟨_, rfl, ?_⟩) | ((with_reducible refine gate_dst (N := 45) rfl ?_); refine Kd.R_lit (Kd.int .i32) _ 21 ?hg (N := 45) ?hd (xs := ([wrap32 (a0 + 80)] : List Int)) (inner := [.int .i32 (wrap32 (a0 + 80))]) (ok := fun _ => True) (okp := fun _ => True) ?hr ?hp (fun _ hk => hk) trivial (Below.refl _ _) (Nat.le_refl _) (by simp) ?_; (case hd => rfl); (case hg => rfl); (case hr => first | (go_simp; done) | (go_simp; rfl)); (case hp => exact (Reps.one (show Kd.M (Kd.int .i32) _ _ _ (wrap32 (a0 + 80)) [.int .i32 (wrap32 (a0 + 80))] from rfl) (Reps.none _ _))); intro v346 w28 ho29 hb hg_ hnew_; clear hg_ hnew_; (first | rw [← Ny345.out] at ho29 | (simp only [Int.reduceToNat] at ho29; rw [← Ny345.out] at ho29)); have n0_ := Aside0.mk (Kd.R_lower ho29 (below_size (by repeat (first | (with_reducible first | exact HB.out | apply below_alloc | apply pw_below_drewN | apply below_drew1) | exact HB.out)))); have n1_ := Aside0.mk (below_step (by repeat (first | (with_reducible first | exact HB.out | apply below_alloc | apply pw_below_drewN | apply below_drew1) | exact HB.out)) hb); clear HB; have HO347 := n0_; have HB := n1_; clear n0_ n1_; clear hb ho29))
        go_ret
        exact ⟨_, by first | rfl | (simp [errW_none, errW_some] <;> rfl) | (simp [*, errW_none, errW_some] <;> rfl), by (with_reducible repeat (first | apply Kd.R_alloc | apply Kd.R_drewN | apply Kd.R_drew)); exact HO347.out, by repeat (first | (with_reducible first | exact HB.out | apply below_alloc | apply pw_below_drewN | apply below_drew1) | exact HB.out)⟩
       ·replace c27 := Bool.eq_false_iff.mpr c27
        subst c27
        have H1 : (if (Int.tmod a0 2) = 0 then ((tremaref02_in.f a0 256 302).bind fun t348 => (if t348 = true then (some (([wrap32 (a0 + 1)] : List Int))) else ((tremaref02_in.f a0 306 310).bind fun t352 => (if t352 = true then (some (([wrap32 (a0 + 1)] : List Int))) else ((tremaref02_in.f a0 330 374).bind fun t356 => (if t356 = true then (some (([wrap32 (a0 + 1)] : List Int))) else ((tremaref02_in.f a0 7680 7828).bind fun t360 => (if t360 = true then (some (([wrap32 (a0 + 1)] : List Int))) else (if (Int.tmod a0 2) = 1 then ((tremaref02_in.f a0 313 327).bind fun t364 => (if t364 = true then (some (([wrap32 (a0 + 1)] : List Int))) else ((tremaref02_in.f a0 377 381).bind fun t368 => (if t368 = true then (some (([wrap32 (a0 + 1)] : List Int))) else (if a0 = 223 then (some (([115, 115] : List Int))) else (if a0 = 7838 then (some (([115, 115] : List Int))) else (if a0 = 304 then (some (([105, 775] : List Int))) else (tremaref02_Fold.l0 k a0 (([181, 376, 383, 837, 902, 962, 8486, 8490, 8491] : List Int)) (([956, 255, 115, 953, 940, 963, 969, 107, 229] : List Int)) 0)))))))) else (if a0 = 223 then (some (([115, 115] : List Int))) else (if a0 = 7838 then (some (([115, 115] : List Int))) else (if a0 = 304 then (some (([105, 775] : List Int))) else (tremaref02_Fold.l0 k a0 (([181, 376, 383, 837, 902, 962, 8486, 8490, 8491] : List Int)) (([956, 255, 115, 953, 940, 963, 969, 107, 229] : List Int)) 0))))))))))))) else (if (Int.tmod a0 2) = 1 then ((tremaref02_in.f a0 313 327).bind fun t410 => (if t410 = true then (some (([wrap32 (a0 + 1)] : List Int))) else ((tremaref02_in.f a0 377 381).bind fun t414 => (if t414 = true then (some (([wrap32 (a0 + 1)] : List Int))) else (if a0 = 223 then (some (([115, 115] : List Int))) else (if a0 = 7838 then (some (([115, 115] : List Int))) else (if a0 = 304 then (some (([105, 775] : List Int))) else (tremaref02_Fold.l0 k a0 (([181, 376, 383, 837, 902, 962, 8486, 8490, 8491] : List Int)) (([956, 255, 115, 953, 940, 963, 969, 107, 229] : List Int)) 0)))))))) else (if a0 = 223 then (some (([115, 115] : List Int))) else (if a0 = 7838 then (some (([115, 115] : List Int))) else (if a0 = 304 then (some (([105, 775] : List Int))) else (tremaref02_Fold.l0 k a0 (([181, 376, 383, 837, 902, 962, 8486, 8490, 8491] : List Int)) (([956, 255, 115, 953, 940, 963, 969, 107, 229] : List Int)) 0)))))) = some r := by rw [if_neg (show ¬ (false = true) by decide)] at H; exact H
        clear H
        have H := H1
        clear H1
        by_cases c30 : (Int.tmod a0 2) = 0
        ·rw [if_pos c30] at H
         have c30b0 : ((Int.tmod a0 2) == 0) = true := beq_iff_eq.mpr c30
         have c30b1 : ((Int.tmod a0 2) != 0) = false := bne_eq_false_iff_eq.mpr c30
         clear c30
         replace H := Option.bind_eq_some_iff.mp H
         obtain ⟨t348, A310, H⟩ := H
         replace H : (if t348 = true then (some (([wrap32 (a0 + 1)] : List Int))) else ((tremaref02_in.f a0 306 310).bind fun t352 => (if t352 = true then (some (([wrap32 (a0 + 1)] : List Int))) else ((tremaref02_in.f a0 330 374).bind fun t356 => (if t356 = true then (some (([wrap32 (a0 + 1)] : List Int))) else ((tremaref02_in.f a0 7680 7828).bind fun t360 => (if t360 = true then (some (([wrap32 (a0 + 1)] : List Int))) else (if (Int.tmod a0 2) = 1 then ((tremaref02_in.f a0 313 327).bind fun t364 => (if t364 = true then (some (([wrap32 (a0 + 1)] : List Int))) else ((tremaref02_in.f a0 377 381).bind fun t368 => (if t368 = true then (some (([wrap32 (a0 + 1)] : List Int))) else (if a0 = 223 then (some (([115, 115] : List Int))) else (if a0 = 7838 then (some (([115, 115] : List Int))) else (if a0 = 304 then (some (([105, 775] : List Int))) else (tremaref02_Fold.l0 k a0 (([181, 376, 383, 837, 902, 962, 8486, 8490, 8491] : List Int)) (([956, 255, 115, 953, 940, 963, 969, 107, 229] : List Int)) 0)))))))) else (if a0 = 223 then (some (([115, 115] : List Int))) else (if a0 = 7838 then (some (([115, 115] : List Int))) else (if a0 = 304 then (some (([105, 775] : List Int))) else (tremaref02_Fold.l0 k a0 (([181, 376, 383, 837, 902, 962, 8486, 8490, 8491] : List Int)) (([956, 255, 115, 953, 940, 963, 969, 107, 229] : List Int)) 0)))))))))))) = some r := H
         have A31 := Aside0.mk A310
         clear A310
         by_cases c32 : t348 = true
         ·subst c32
          have H1 : (some (([wrap32 (a0 + 1)] : List Int))) = some r := by rw [if_pos rfl] at H; exact H
          clear H
          have H := H1
          clear H1
          obtain ⟨y349, hy349⟩ : ∃ y_ : List Int, y_ = (([wrap32 (a0 + 1)] : List Int)) := ⟨_, rfl⟩
          replace H : (some y349) = some r := by first | (rw [hy349]; with_reducible exact H) | (have H2_ := (Option.bind_some _ _).symm.trans H; rw [hy349]; with_reducible exact H2_) | (have H2_ := (Option.bind_some _ _).symm.trans H; with_reducible exact H2_) | with_reducible exact H | (rw [hy349]; exact H) | exact H
          have Ny349 := Aside0.mk hy349
          clear hy349
          obtain rfl := Option.some.inj H
          go_enter Tryd.func26, Tryd.ntmps26
          go_wp2_with (first | ((with_reducible refine gate_callee (f := 31) rfl ?_); refine goesL_ (some 16) rfl rfl Tryd.func31 (by kernel_rfl) rfl #[.int .i32 a0, .int .i32 65, .int .i32 90] rfl (by (try simp only [List.map_toArray, List.map_cons, List.map_nil]); first | done | rfl | (simp only [List.length_drop, List.length_take]; rfl)) ?_; (with_reducible refine (tremaref02_in.calls a0 65 90 false _ A2.out).mono ?_); rintro e w' ⟨rfl, ⟨nd, rfl⟩⟩; refine ⟨_, rfl, ?_⟩) | (go_at_call 31; (with_reducible refine (tremaref02_in.calls a0 192 214 false _ A6.out).mono ?_); rintro e w' ⟨rfl, ⟨nd, rfl⟩⟩) | (go_at_call 31; (with_reducible refine (tremaref02_in.calls a0 216 222 false _ A10.out).mono ?_); rintro e w' ⟨rfl, ⟨nd, rfl⟩⟩) | (go_at_call 31; (with_reducible refine (tremaref02_in.calls a0 913 929 false _ A14.out).mono ?_); rintro e w' ⟨rfl, ⟨nd, rfl⟩⟩) | (go_at_call 31; (with_reducible refine (tremaref02_in.calls a0 931 937 false _ A18.out).mono ?_); rintro e w' ⟨rfl, ⟨nd, rfl⟩⟩) | (go_at_call 31; (with_reducible refine (tremaref02_in.calls a0 1040 1071 false _ A22.out).mono ?_); rintro e w' ⟨rfl, ⟨nd, rfl⟩⟩) | ((with_reducible refine gate_callee (f := 31) rfl ?_); refine goesL_ (some 42) rfl rfl Tryd.func31 (by kernel_rfl) rfl #[.int .i32 a0, .int .i32 1024, .int .i32 1039] rfl (by (try simp only [List.map_toArray, List.map_cons, List.map_nil]); first | done | rfl | (simp only [List.length_drop, List.length_take]; rfl)) ?_; (with_reducible refine (tremaref02_in.calls a0 1024 1039 false _ A26.out).mono ?_); rintro e w' ⟨rfl, ⟨nd, rfl⟩⟩; refine ⟨_, rfl, ?_⟩) | (go_at_call 31; (with_reducible refine (tremaref02_in.calls a0 256 302 true _ A31.out).mono ?_); rintro e w' ⟨rfl, ⟨nd, rfl⟩⟩) | ((with_reducible refine gate_dst (N := 66) rfl ?_); refine Kd.R_lit (Kd.int .i32) _ 21 ?hg (N := 66) ?hd (xs := ([wrap32 (a0 + 1)] : List Int)) (inner := [.int .i32 (wrap32 (a0 + 1))]) (ok := fun _ => True) (okp := fun _ => True) ?hr ?hp (fun _ hk => hk) trivial (Below.refl _ _) (Nat.le_refl _) (by simp) ?_; (case hd => rfl); (case hg => rfl); (case hr => first | (go_simp; done) | (go_simp; rfl)); (case hp => exact (Reps.one (show Kd.M (Kd.int .i32) _ _ _ (wrap32 (a0 + 1)) [.int .i32 (wrap32 (a0 + 1))] from rfl) (Reps.none _ _))); intro v350 w33 ho34 hb hg_ hnew_; clear hg_ hnew_; (first | rw [← Ny349.out] at ho34 | (simp only [Int.reduceToNat] at ho34; rw [← Ny349.out] at ho34)); have n0_ := Aside0.mk (Kd.R_lower ho34 (below_size (by repeat (first | (with_reducible first | exact HB.out | apply below_alloc | apply pw_below_drewN | apply below_drew1) | exact HB.out)))); have n1_ := Aside0.mk (below_step (by repeat (first | (with_reducible first | exact HB.out | apply below_alloc | apply pw_below_drewN | apply below_drew1) | exact HB.out)) hb); clear HB; have HO351 := n0_; have HB := n1_; clear n0_ n1_; clear hb ho34))
          go_ret
          exact ⟨_, by first | rfl | (simp [errW_none, errW_some] <;> rfl) | (simp [*, errW_none, errW_some] <;> rfl), by (with_reducible repeat (first | apply Kd.R_alloc | apply Kd.R_drewN | apply Kd.R_drew)); exact HO351.out, by repeat (first | (with_reducible first | exact HB.out | apply below_alloc | apply pw_below_drewN | apply below_drew1) | exact HB.out)⟩
         ·replace c32 := Bool.eq_false_iff.mpr c32
          subst c32
          have H1 : ((tremaref02_in.f a0 306 310).bind fun t352 => (if t352 = true then (some (([wrap32 (a0 + 1)] : List Int))) else ((tremaref02_in.f a0 330 374).bind fun t356 => (if t356 = true then (some (([wrap32 (a0 + 1)] : List Int))) else ((tremaref02_in.f a0 7680 7828).bind fun t360 => (if t360 = true then (some (([wrap32 (a0 + 1)] : List Int))) else (if (Int.tmod a0 2) = 1 then ((tremaref02_in.f a0 313 327).bind fun t364 => (if t364 = true then (some (([wrap32 (a0 + 1)] : List Int))) else ((tremaref02_in.f a0 377 381).bind fun t368 => (if t368 = true then (some (([wrap32 (a0 + 1)] : List Int))) else (if a0 = 223 then (some (([115, 115] : List Int))) else (if a0 = 7838 then (some (([115, 115] : List Int))) else (if a0 = 304 then (some (([105, 775] : List Int))) else (tremaref02_Fold.l0 k a0 (([181, 376, 383, 837, 902, 962, 8486, 8490, 8491] : List Int)) (([956, 255, 115, 953, 940, 963, 969, 107, 229] : List Int)) 0)))))))) else (if a0 = 223 then (some (([115, 115] : List Int))) else (if a0 = 7838 then (some (([115, 115] : List Int))) else (if a0 = 304 then (some (([105, 775] : List Int))) else (tremaref02_Fold.l0 k a0 (([181, 376, 383, 837, 902, 962, 8486, 8490, 8491] : List Int)) (([956, 255, 115, 953, 940, 963, 969, 107, 229] : List Int)) 0))))))))))) = some r := by rw [if_neg (show ¬ (false = true) by decide)] at H; exact H
          clear H
          have H := H1
          clear H1
          replace H := Option.bind_eq_some_iff.mp H
          obtain ⟨t352, A350, H⟩ := H
          replace H : (if t352 = true then (some (([wrap32 (a0 + 1)] : List Int))) else ((tremaref02_in.f a0 330 374).bind fun t356 => (if t356 = true then (some (([wrap32 (a0 + 1)] : List Int))) else ((tremaref02_in.f a0 7680 7828).bind fun t360 => (if t360 = true then (some (([wrap32 (a0 + 1)] : List Int))) else (if (Int.tmod a0 2) = 1 then ((tremaref02_in.f a0 313 327).bind fun t364 => (if t364 = true then (some (([wrap32 (a0 + 1)] : List Int))) else ((tremaref02_in.f a0 377 381).bind fun t368 => (if t368 = true then (some (([wrap32 (a0 + 1)] : List Int))) else (if a0 = 223 then (some (([115, 115] : List Int))) else (if a0 = 7838 then (some (([115, 115] : List Int))) else (if a0 = 304 then (some (([105, 775] : List Int))) else (tremaref02_Fold.l0 k a0 (([181, 376, 383, 837, 902, 962, 8486, 8490, 8491] : List Int)) (([956, 255, 115, 953, 940, 963, 969, 107, 229] : List Int)) 0)))))))) else (if a0 = 223 then (some (([115, 115] : List Int))) else (if a0 = 7838 then (some (([115, 115] : List Int))) else (if a0 = 304 then (some (([105, 775] : List Int))) else (tremaref02_Fold.l0 k a0 (([181, 376, 383, 837, 902, 962, 8486, 8490, 8491] : List Int)) (([956, 255, 115, 953, 940, 963, 969, 107, 229] : List Int)) 0)))))))))) = some r := H
          have A35 := Aside0.mk A350
          clear A350
          by_cases c36 : t352 = true
          ·subst c36
           have H1 : (some (([wrap32 (a0 + 1)] : List Int))) = some r := by rw [if_pos rfl] at H; exact H
           clear H
           have H := H1
           clear H1
           obtain ⟨y353, hy353⟩ : ∃ y_ : List Int, y_ = (([wrap32 (a0 + 1)] : List Int)) := ⟨_, rfl⟩
           replace H : (some y353) = some r := by first | (rw [hy353]; with_reducible exact H) | (have H2_ := (Option.bind_some _ _).symm.trans H; rw [hy353]; with_reducible exact H2_) | (have H2_ := (Option.bind_some _ _).symm.trans H; with_reducible exact H2_) | with_reducible exact H | (rw [hy353]; exact H) | exact H
           have Ny353 := Aside0.mk hy353
           clear hy353
           obtain rfl := Option.some.inj H
           go_enter Tryd.func26, Tryd.ntmps26
           go_wp2_with (first | ((with_reducible refine gate_callee (f := 31) rfl ?_); refine goesL_ (some 16) rfl rfl Tryd.func31 (by kernel_rfl) rfl #[.int .i32 a0, .int .i32 65, .int .i32 90] rfl (by (try simp only [List.map_toArray, List.map_cons, List.map_nil]); first | done | rfl | (simp only [List.length_drop, List.length_take]; rfl)) ?_; (with_reducible refine (tremaref02_in.calls a0 65 90 false _ A2.out).mono ?_); rintro e w' ⟨rfl, ⟨nd, rfl⟩⟩; refine ⟨_, rfl, ?_⟩) | (go_at_call 31; (with_reducible refine (tremaref02_in.calls a0 192 214 false _ A6.out).mono ?_); rintro e w' ⟨rfl, ⟨nd, rfl⟩⟩) | (go_at_call 31; (with_reducible refine (tremaref02_in.calls a0 216 222 false _ A10.out).mono ?_); rintro e w' ⟨rfl, ⟨nd, rfl⟩⟩) | (go_at_call 31; (with_reducible refine (tremaref02_in.calls a0 913 929 false _ A14.out).mono ?_); rintro e w' ⟨rfl, ⟨nd, rfl⟩⟩) | (go_at_call 31; (with_reducible refine (tremaref02_in.calls a0 931 937 false _ A18.out).mono ?_); rintro e w' ⟨rfl, ⟨nd, rfl⟩⟩) | (go_at_call 31; (with_reducible refine (tremaref02_in.calls a0 1040 1071 false _ A22.out).mono ?_); rintro e w' ⟨rfl, ⟨nd, rfl⟩⟩) | ((with_reducible refine gate_callee (f := 31) rfl ?_); refine goesL_ (some 42) rfl rfl Tryd.func31 (by kernel_rfl) rfl #[.int .i32 a0, .int .i32 1024, .int .i32 1039] rfl (by (try simp only [List.map_toArray, List.map_cons, List.map_nil]); first | done | rfl | (simp only [List.length_drop, List.length_take]; rfl)) ?_; (with_reducible refine (tremaref02_in.calls a0 1024 1039 false _ A26.out).mono ?_); rintro e w' ⟨rfl, ⟨nd, rfl⟩⟩; refine ⟨_, rfl, ?_⟩) | (go_at_call 31; (with_reducible refine (tremaref02_in.calls a0 256 302 false _ A31.out).mono ?_); rintro e w' ⟨rfl, ⟨nd, rfl⟩⟩) | (go_at_call 31; (with_reducible refine (tremaref02_in.calls a0 306 310 true _ A35.out).mono ?_); rintro e w' ⟨rfl, ⟨nd, rfl⟩⟩) | ((with_reducible refine gate_dst (N := 66) rfl ?_); refine Kd.R_lit (Kd.int .i32) _ 21 ?hg (N := 66) ?hd (xs := ([wrap32 (a0 + 1)] : List Int)) (inner := [.int .i32 (wrap32 (a0 + 1))]) (ok := fun _ => True) (okp := fun _ => True) ?hr ?hp (fun _ hk => hk) trivial (Below.refl _ _) (Nat.le_refl _) (by simp) ?_; (case hd => rfl); (case hg => rfl); (case hr => first | (go_simp; done) | (go_simp; rfl)); (case hp => exact (Reps.one (show Kd.M (Kd.int .i32) _ _ _ (wrap32 (a0 + 1)) [.int .i32 (wrap32 (a0 + 1))] from rfl) (Reps.none _ _))); intro v354 w37 ho38 hb hg_ hnew_; clear hg_ hnew_; (first | rw [← Ny353.out] at ho38 | (simp only [Int.reduceToNat] at ho38; rw [← Ny353.out] at ho38)); have n0_ := Aside0.mk (Kd.R_lower ho38 (below_size (by repeat (first | (with_reducible first | exact HB.out | apply below_alloc | apply pw_below_drewN | apply below_drew1) | exact HB.out)))); have n1_ := Aside0.mk (below_step (by repeat (first | (with_reducible first | exact HB.out | apply below_alloc | apply pw_below_drewN | apply below_drew1) | exact HB.out)) hb); clear HB; have HO355 := n0_; have HB := n1_; clear n0_ n1_; clear hb ho38))
           go_ret
           exact ⟨_, by first | rfl | (simp [errW_none, errW_some] <;> rfl) | (simp [*, errW_none, errW_some] <;> rfl), by (with_reducible repeat (first | apply Kd.R_alloc | apply Kd.R_drewN | apply Kd.R_drew)); exact HO355.out, by repeat (first | (with_reducible first | exact HB.out | apply below_alloc | apply pw_below_drewN | apply below_drew1) | exact HB.out)⟩
          ·replace c36 := Bool.eq_false_iff.mpr c36
           subst c36
           have H1 : ((tremaref02_in.f a0 330 374).bind fun t356 => (if t356 = true then (some (([wrap32 (a0 + 1)] : List Int))) else ((tremaref02_in.f a0 7680 7828).bind fun t360 => (if t360 = true then (some (([wrap32 (a0 + 1)] : List Int))) else (if (Int.tmod a0 2) = 1 then ((tremaref02_in.f a0 313 327).bind fun t364 => (if t364 = true then (some (([wrap32 (a0 + 1)] : List Int))) else ((tremaref02_in.f a0 377 381).bind fun t368 => (if t368 = true then (some (([wrap32 (a0 + 1)] : List Int))) else (if a0 = 223 then (some (([115, 115] : List Int))) else (if a0 = 7838 then (some (([115, 115] : List Int))) else (if a0 = 304 then (some (([105, 775] : List Int))) else (tremaref02_Fold.l0 k a0 (([181, 376, 383, 837, 902, 962, 8486, 8490, 8491] : List Int)) (([956, 255, 115, 953, 940, 963, 969, 107, 229] : List Int)) 0)))))))) else (if a0 = 223 then (some (([115, 115] : List Int))) else (if a0 = 7838 then (some (([115, 115] : List Int))) else (if a0 = 304 then (some (([105, 775] : List Int))) else (tremaref02_Fold.l0 k a0 (([181, 376, 383, 837, 902, 962, 8486, 8490, 8491] : List Int)) (([956, 255, 115, 953, 940, 963, 969, 107, 229] : List Int)) 0))))))))) = some r := by rw [if_neg (show ¬ (false = true) by decide)] at H; exact H
           clear H
           have H := H1
           clear H1
           replace H := Option.bind_eq_some_iff.mp H
           obtain ⟨t356, A390, H⟩ := H
           replace H : (if t356 = true then (some (([wrap32 (a0 + 1)] : List Int))) else ((tremaref02_in.f a0 7680 7828).bind fun t360 => (if t360 = true then (some (([wrap32 (a0 + 1)] : List Int))) else (if (Int.tmod a0 2) = 1 then ((tremaref02_in.f a0 313 327).bind fun t364 => (if t364 = true then (some (([wrap32 (a0 + 1)] : List Int))) else ((tremaref02_in.f a0 377 381).bind fun t368 => (if t368 = true then (some (([wrap32 (a0 + 1)] : List Int))) else (if a0 = 223 then (some (([115, 115] : List Int))) else (if a0 = 7838 then (some (([115, 115] : List Int))) else (if a0 = 304 then (some (([105, 775] : List Int))) else (tremaref02_Fold.l0 k a0 (([181, 376, 383, 837, 902, 962, 8486, 8490, 8491] : List Int)) (([956, 255, 115, 953, 940, 963, 969, 107, 229] : List Int)) 0)))))))) else (if a0 = 223 then (some (([115, 115] : List Int))) else (if a0 = 7838 then (some (([115, 115] : List Int))) else (if a0 = 304 then (some (([105, 775] : List Int))) else (tremaref02_Fold.l0 k a0 (([181, 376, 383, 837, 902, 962, 8486, 8490, 8491] : List Int)) (([956, 255, 115, 953, 940, 963, 969, 107, 229] : List Int)) 0)))))))) = some r := H
           have A39 := Aside0.mk A390
           clear A390
           by_cases c40 : t356 = true
           ·subst c40
            have H1 : (some (([wrap32 (a0 + 1)] : List Int))) = some r := by rw [if_pos rfl] at H; exact H
            clear H
            have H := H1
            clear H1
            obtain ⟨y357, hy357⟩ : ∃ y_ : List Int, y_ = (([wrap32 (a0 + 1)] : List Int)) := ⟨_, rfl⟩
            replace H : (some y357) = some r := by first | (rw [hy357]; with_reducible exact H) | (have H2_ := (Option.bind_some _ _).symm.trans H; rw [hy357]; with_reducible exact H2_) | (have H2_ := (Option.bind_some _ _).symm.trans H; with_reducible exact H2_) | with_reducible exact H | (rw [hy357]; exact H) | exact H
            have Ny357 := Aside0.mk hy357
            clear hy357
            obtain rfl := Option.some.inj H
            go_enter Tryd.func26, Tryd.ntmps26
            go_wp2_with (first | ((with_reducible refine gate_callee (f := 31) rfl ?_); refine goesL_ (some 16) rfl rfl Tryd.func31 (by kernel_rfl) rfl #[.int .i32 a0, .int .i32 65, .int .i32 90] rfl (by (try simp only [List.map_toArray, List.map_cons, List.map_nil]); first | done | rfl | (simp only [List.length_drop, List.length_take]; rfl)) ?_; (with_reducible refine (tremaref02_in.calls a0 65 90 false _ A2.out).mono ?_); rintro e w' ⟨rfl, ⟨nd, rfl⟩⟩; refine ⟨_, rfl, ?_⟩) | (go_at_call 31; (with_reducible refine (tremaref02_in.calls a0 192 214 false _ A6.out).mono ?_); rintro e w' ⟨rfl, ⟨nd, rfl⟩⟩) | (go_at_call 31; (with_reducible refine (tremaref02_in.calls a0 216 222 false _ A10.out).mono ?_); rintro e w' ⟨rfl, ⟨nd, rfl⟩⟩) | (go_at_call 31; (with_reducible refine (tremaref02_in.calls a0 913 929 false _ A14.out).mono ?_); rintro e w' ⟨rfl, ⟨nd, rfl⟩⟩) | (go_at_call 31; (with_reducible refine (tremaref02_in.calls a0 931 937 false _ A18.out).mono ?_); rintro e w' ⟨rfl, ⟨nd, rfl⟩⟩) | (go_at_call 31; (with_reducible refine (tremaref02_in.calls a0 1040 1071 false _ A22.out).mono ?_); rintro e w' ⟨rfl, ⟨nd, rfl⟩⟩) | ((with_reducible refine gate_callee (f := 31) rfl ?_); refine goesL_ (some 42) rfl rfl Tryd.func31 (by kernel_rfl) rfl #[.int .i32 a0, .int .i32 1024, .int .i32 1039] rfl (by (try simp only [List.map_toArray, List.map_cons, List.map_nil]); first | done | rfl | (simp only [List.length_drop, List.length_take]; rfl)) ?_; (with_reducible refine (tremaref02_in.calls a0 1024 1039 false _ A26.out).mono ?_); rintro e w' ⟨rfl, ⟨nd, rfl⟩⟩; refine ⟨_, rfl, ?_⟩) | (go_at_call 31; (with_reducible refine (tremaref02_in.calls a0 256 302 false _ A31.out).mono ?_); rintro e w' ⟨rfl, ⟨nd, rfl⟩⟩) | (go_at_call 31; (with_reducible refine (tremaref02_in.calls a0 306 310 false _ A35.out).mono ?_); rintro e w' ⟨rfl, ⟨nd, rfl⟩⟩) | (go_at_call 31; (with_reducible refine (tremaref02_in.calls a0 330 374 true _ A39.out).mono ?_); rintro e w' ⟨rfl, ⟨nd, rfl⟩⟩) | ((with_reducible refine gate_dst (N := 66) rfl ?_); refine Kd.R_lit (Kd.int .i32) _ 21 ?hg (N := 66) ?hd (xs := ([wrap32 (a0 + 1)] : List Int)) (inner := [.int .i32 (wrap32 (a0 + 1))]) (ok := fun _ => True) (okp := fun _ => True) ?hr ?hp (fun _ hk => hk) trivial (Below.refl _ _) (Nat.le_refl _) (by simp) ?_; (case hd => rfl); (case hg => rfl); (case hr => first | (go_simp; done) | (go_simp; rfl)); (case hp => exact (Reps.one (show Kd.M (Kd.int .i32) _ _ _ (wrap32 (a0 + 1)) [.int .i32 (wrap32 (a0 + 1))] from rfl) (Reps.none _ _))); intro v358 w41 ho42 hb hg_ hnew_; clear hg_ hnew_; (first | rw [← Ny357.out] at ho42 | (simp only [Int.reduceToNat] at ho42; rw [← Ny357.out] at ho42)); have n0_ := Aside0.mk (Kd.R_lower ho42 (below_size (by repeat (first | (with_reducible first | exact HB.out | apply below_alloc | apply pw_below_drewN | apply below_drew1) | exact HB.out)))); have n1_ := Aside0.mk (below_step (by repeat (first | (with_reducible first | exact HB.out | apply below_alloc | apply pw_below_drewN | apply below_drew1) | exact HB.out)) hb); clear HB; have HO359 := n0_; have HB := n1_; clear n0_ n1_; clear hb ho42))
            go_ret
            exact ⟨_, by first | rfl | (simp [errW_none, errW_some] <;> rfl) | (simp [*, errW_none, errW_some] <;> rfl), by (with_reducible repeat (first | apply Kd.R_alloc | apply Kd.R_drewN | apply Kd.R_drew)); exact HO359.out, by repeat (first | (with_reducible first | exact HB.out | apply below_alloc | apply pw_below_drewN | apply below_drew1) | exact HB.out)⟩
           ·replace c40 := Bool.eq_false_iff.mpr c40
            subst c40
            have H1 : ((tremaref02_in.f a0 7680 7828).bind fun t360 => (if t360 = true then (some (([wrap32 (a0 + 1)] : List Int))) else (if (Int.tmod a0 2) = 1 then ((tremaref02_in.f a0 313 327).bind fun t364 => (if t364 = true then (some (([wrap32 (a0 + 1)] : List Int))) else ((tremaref02_in.f a0 377 381).bind fun t368 => (if t368 = true then (some (([wrap32 (a0 + 1)] : List Int))) else (if a0 = 223 then (some (([115, 115] : List Int))) else (if a0 = 7838 then (some (([115, 115] : List Int))) else (if a0 = 304 then (some (([105, 775] : List Int))) else (tremaref02_Fold.l0 k a0 (([181, 376, 383, 837, 902, 962, 8486, 8490, 8491] : List Int)) (([956, 255, 115, 953, 940, 963, 969, 107, 229] : List Int)) 0)))))))) else (if a0 = 223 then (some (([115, 115] : List Int))) else (if a0 = 7838 then (some (([115, 115] : List Int))) else (if a0 = 304 then (some (([105, 775] : List Int))) else (tremaref02_Fold.l0 k a0 (([181, 376, 383, 837, 902, 962, 8486, 8490, 8491] : List Int)) (([956, 255, 115, 953, 940, 963, 969, 107, 229] : List Int)) 0))))))) = some r := by rw [if_neg (show ¬ (false = true) by decide)] at H; exact H
            clear H
            have H := H1
            clear H1
            replace H := Option.bind_eq_some_iff.mp H
            obtain ⟨t360, A430, H⟩ := H
            replace H : (if t360 = true then (some (([wrap32 (a0 + 1)] : List Int))) else (if (Int.tmod a0 2) = 1 then ((tremaref02_in.f a0 313 327).bind fun t364 => (if t364 = true then (some (([wrap32 (a0 + 1)] : List Int))) else ((tremaref02_in.f a0 377 381).bind fun t368 => (if t368 = true then (some (([wrap32 (a0 + 1)] : List Int))) else (if a0 = 223 then (some (([115, 115] : List Int))) else (if a0 = 7838 then (some (([115, 115] : List Int))) else (if a0 = 304 then (some (([105, 775] : List Int))) else (tremaref02_Fold.l0 k a0 (([181, 376, 383, 837, 902, 962, 8486, 8490, 8491] : List Int)) (([956, 255, 115, 953, 940, 963, 969, 107, 229] : List Int)) 0)))))))) else (if a0 = 223 then (some (([115, 115] : List Int))) else (if a0 = 7838 then (some (([115, 115] : List Int))) else (if a0 = 304 then (some (([105, 775] : List Int))) else (tremaref02_Fold.l0 k a0 (([181, 376, 383, 837, 902, 962, 8486, 8490, 8491] : List Int)) (([956, 255, 115, 953, 940, 963, 969, 107, 229] : List Int)) 0)))))) = some r := H
            have A43 := Aside0.mk A430
            clear A430
            by_cases c44 : t360 = true
            ·subst c44
             have H1 : (some (([wrap32 (a0 + 1)] : List Int))) = some r := by rw [if_pos rfl] at H; exact H
             clear H
             have H := H1
             clear H1
             obtain ⟨y361, hy361⟩ : ∃ y_ : List Int, y_ = (([wrap32 (a0 + 1)] : List Int)) := ⟨_, rfl⟩
             replace H : (some y361) = some r := by first | (rw [hy361]; with_reducible exact H) | (have H2_ := (Option.bind_some _ _).symm.trans H; rw [hy361]; with_reducible exact H2_) | (have H2_ := (Option.bind_some _ _).symm.trans H; with_reducible exact H2_) | with_reducible exact H | (rw [hy361]; exact H) | exact H
             have Ny361 := Aside0.mk hy361
             clear hy361
             obtain rfl := Option.some.inj H
             go_enter Tryd.func26, Tryd.ntmps26
             go_wp2_with (first | ((with_reducible refine gate_callee (f := 31) rfl ?_); refine goesL_ (some 16) rfl rfl Tryd.func31 (by kernel_rfl) rfl #[.int .i32 a0, .int .i32 65, .int .i32 90] rfl (by (try simp only [List.map_toArray, List.map_cons, List.map_nil]); first | done | rfl | (simp only [List.length_drop, List.length_take]; rfl)) ?_; (with_reducible refine (tremaref02_in.calls a0 65 90 false _ A2.out).mono ?_); rintro e w' ⟨rfl, ⟨nd, rfl⟩⟩; refine ⟨_, rfl, ?_⟩) | (go_at_call 31; (with_reducible refine (tremaref02_in.calls a0 192 214 false _ A6.out).mono ?_); rintro e w' ⟨rfl, ⟨nd, rfl⟩⟩) | (go_at_call 31; (with_reducible refine (tremaref02_in.calls a0 216 222 false _ A10.out).mono ?_); rintro e w' ⟨rfl, ⟨nd, rfl⟩⟩) | (go_at_call 31; (with_reducible refine (tremaref02_in.calls a0 913 929 false _ A14.out).mono ?_); rintro e w' ⟨rfl, ⟨nd, rfl⟩⟩) | (go_at_call 31; (with_reducible refine (tremaref02_in.calls a0 931 937 false _ A18.out).mono ?_); rintro e w' ⟨rfl, ⟨nd, rfl⟩⟩) | (go_at_call 31; (with_reducible refine (tremaref02_in.calls a0 1040 1071 false _ A22.out).mono ?_); rintro e w' ⟨rfl, ⟨nd, rfl⟩⟩) | ((with_reducible refine gate_callee (f := 31) rfl ?_); refine goesL_ (some 42) rfl rfl Tryd.func31 (by kernel_rfl) rfl #[.int .i32 a0, .int .i32 1024, .int .i32 1039] rfl (by (try simp only [List.map_toArray, List.map_cons, List.map_nil]); first | done | rfl | (simp only [List.length_drop, List.length_take]; rfl)) ?_; (with_reducible refine (tremaref02_in.calls a0 1024 1039 false _ A26.out).mono ?_); rintro e w' ⟨rfl, ⟨nd, rfl⟩⟩; refine ⟨_, rfl, ?_⟩) | (go_at_call 31; (with_reducible refine (tremaref02_in.calls a0 256 302 false _ A31.out).mono ?_); rintro e w' ⟨rfl, ⟨nd, rfl⟩⟩) | (go_at_call 31; (with_reducible refine (tremaref02_in.calls a0 306 310 false _ A35.out).mono ?_); rintro e w' ⟨rfl, ⟨nd, rfl⟩⟩) | (go_at_call 31; (with_reducible refine (tremaref02_in.calls a0 330 374 false _ A39.out).mono ?_); rintro e w' ⟨rfl, ⟨nd, rfl⟩⟩) | (go_at_call 31; (with_reducible refine (tremaref02_in.calls a0 7680 7828 true _ A43.out).mono ?_); rintro e w' ⟨rfl, ⟨nd, rfl⟩⟩) | ((with_reducible refine gate_dst (N := 66) rfl ?_); refine Kd.R_lit (Kd.int .i32) _ 21 ?hg (N := 66) ?hd (xs := ([wrap32 (a0 + 1)] : List Int)) (inner := [.int .i32 (wrap32 (a0 + 1))]) (ok := fun _ => True) (okp := fun _ => True) ?hr ?hp (fun _ hk => hk) trivial (Below.refl _ _) (Nat.le_refl _) (by simp) ?_; (case hd => rfl); (case hg => rfl); (case hr => first | (go_simp; done) | (go_simp; rfl)); (case hp => exact (Reps.one (show Kd.M (Kd.int .i32) _ _ _ (wrap32 (a0 + 1)) [.int .i32 (wrap32 (a0 + 1))] from rfl) (Reps.none _ _))); intro v362 w45 ho46 hb hg_ hnew_; clear hg_ hnew_; (first | rw [← Ny361.out] at ho46 | (simp only [Int.reduceToNat] at ho46; rw [← Ny361.out] at ho46)); have n0_ := Aside0.mk (Kd.R_lower ho46 (below_size (by repeat (first | (with_reducible first | exact HB.out | apply below_alloc | apply pw_below_drewN | apply below_drew1) | exact HB.out)))); have n1_ := Aside0.mk (below_step (by repeat (first | (with_reducible first | exact HB.out | apply below_alloc | apply pw_below_drewN | apply below_drew1) | exact HB.out)) hb); clear HB; have HO363 := n0_; have HB := n1_; clear n0_ n1_; clear hb ho46))
             go_ret
             exact ⟨_, by first | rfl | (simp [errW_none, errW_some] <;> rfl) | (simp [*, errW_none, errW_some] <;> rfl), by (with_reducible repeat (first | apply Kd.R_alloc | apply Kd.R_drewN | apply Kd.R_drew)); exact HO363.out, by repeat (first | (with_reducible first | exact HB.out | apply below_alloc | apply pw_below_drewN | apply below_drew1) | exact HB.out)⟩
            ·replace c44 := Bool.eq_false_iff.mpr c44
             subst c44
             have H1 : (if (Int.tmod a0 2) = 1 then ((tremaref02_in.f a0 313 327).bind fun t364 => (if t364 = true then (some (([wrap32 (a0 + 1)] : List Int))) else ((tremaref02_in.f a0 377 381).bind fun t368 => (if t368 = true then (some (([wrap32 (a0 + 1)] : List Int))) else (if a0 = 223 then (some (([115, 115] : List Int))) else (if a0 = 7838 then (some (([115, 115] : List Int))) else (if a0 = 304 then (some (([105, 775] : List Int))) else (tremaref02_Fold.l0 k a0 (([181, 376, 383, 837, 902, 962, 8486, 8490, 8491] : List Int)) (([956, 255, 115, 953, 940, 963, 969, 107, 229] : List Int)) 0)))))))) else (if a0 = 223 then (some (([115, 115] : List Int))) else (if a0 = 7838 then (some (([115, 115] : List Int))) else (if a0 = 304 then (some (([105, 775] : List Int))) else (tremaref02_Fold.l0 k a0 (([181, 376, 383, 837, 902, 962, 8486, 8490, 8491] : List Int)) (([956, 255, 115, 953, 940, 963, 969, 107, 229] : List Int)) 0))))) = some r := by rw [if_neg (show ¬ (false = true) by decide)] at H; exact H
             clear H
             have H := H1
             clear H1
             by_cases c47 : (Int.tmod a0 2) = 1
             ·rw [if_pos c47] at H
              have c47b0 : ((Int.tmod a0 2) == 1) = true := beq_iff_eq.mpr c47
              have c47b1 : ((Int.tmod a0 2) != 1) = false := bne_eq_false_iff_eq.mpr c47
              clear c47
              replace H := Option.bind_eq_some_iff.mp H
              obtain ⟨t364, A480, H⟩ := H
              replace H : (if t364 = true then (some (([wrap32 (a0 + 1)] : List Int))) else ((tremaref02_in.f a0 377 381).bind fun t368 => (if t368 = true then (some (([wrap32 (a0 + 1)] : List Int))) else (if a0 = 223 then (some (([115, 115] : List Int))) else (if a0 = 7838 then (some (([115, 115] : List Int))) else (if a0 = 304 then (some (([105, 775] : List Int))) else (tremaref02_Fold.l0 k a0 (([181, 376, 383, 837, 902, 962, 8486, 8490, 8491] : List Int)) (([956, 255, 115, 953, 940, 963, 969, 107, 229] : List Int)) 0))))))) = some r := H
              have A48 := Aside0.mk A480
              clear A480
              by_cases c49 : t364 = true
              ·subst c49
               have H1 : (some (([wrap32 (a0 + 1)] : List Int))) = some r := by rw [if_pos rfl] at H; exact H
               clear H
               have H := H1
               clear H1
               obtain ⟨y365, hy365⟩ : ∃ y_ : List Int, y_ = (([wrap32 (a0 + 1)] : List Int)) := ⟨_, rfl⟩
               replace H : (some y365) = some r := by first | (rw [hy365]; with_reducible exact H) | (have H2_ := (Option.bind_some _ _).symm.trans H; rw [hy365]; with_reducible exact H2_) | (have H2_ := (Option.bind_some _ _).symm.trans H; with_reducible exact H2_) | with_reducible exact H | (rw [hy365]; exact H) | exact H
               have Ny365 := Aside0.mk hy365
               clear hy365
               obtain rfl := Option.some.inj H
               go_enter Tryd.func26, Tryd.ntmps26
               go_wp2_with (first | ((with_reducible refine gate_callee (f := 31) rfl ?_); refine goesL_ (some 16) rfl rfl Tryd.func31 (by kernel_rfl) rfl #[.int .i32 a0, .int .i32 65, .int .i32 90] rfl (by (try simp only [List.map_toArray, List.map_cons, List.map_nil]); first | done | rfl | (simp only [List.length_drop, List.length_take]; rfl)) ?_; (with_reducible refine (tremaref02_in.calls a0 65 90 false _ A2.out).mono ?_); rintro e w' ⟨rfl, ⟨nd, rfl⟩⟩; refine ⟨_, rfl, ?_⟩) | (go_at_call 31; (with_reducible refine (tremaref02_in.calls a0 192 214 false _ A6.out).mono ?_); rintro e w' ⟨rfl, ⟨nd, rfl⟩⟩) | (go_at_call 31; (with_reducible refine (tremaref02_in.calls a0 216 222 false _ A10.out).mono ?_); rintro e w' ⟨rfl, ⟨nd, rfl⟩⟩) | (go_at_call 31; (with_reducible refine (tremaref02_in.calls a0 913 929 false _ A14.out).mono ?_); rintro e w' ⟨rfl, ⟨nd, rfl⟩⟩) | (go_at_call 31; (with_reducible refine (tremaref02_in.calls a0 931 937 false _ A18.out).mono ?_); rintro e w' ⟨rfl, ⟨nd, rfl⟩⟩) | (go_at_call 31; (with_reducible refine (tremaref02_in.calls a0 1040 1071 false _ A22.out).mono ?_); rintro e w' ⟨rfl, ⟨nd, rfl⟩⟩) | ((with_reducible refine gate_callee (f := 31) rfl ?_); refine goesL_ (some 42) rfl rfl Tryd.func31 (by kernel_rfl) rfl #[.int .i32 a0, .int .i32 1024, .int .i32 1039] rfl (by (try simp only [List.map_toArray, List.map_cons, List.map_nil]); first | done | rfl | (simp only [List.length_drop, List.length_take]; rfl)) ?_; (with_reducible refine (tremaref02_in.calls a0 1024 1039 false _ A26.out).mono ?_); rintro e w' ⟨rfl, ⟨nd, rfl⟩⟩; refine ⟨_, rfl, ?_⟩) | (go_at_call 31; (with_reducible refine (tremaref02_in.calls a0 256 302 false _ A31.out).mono ?_); rintro e w' ⟨rfl, ⟨nd, rfl⟩⟩) | (go_at_call 31; (with_reducible refine (tremaref02_in.calls a0 306 310 false _ A35.out).mono ?_); rintro e w' ⟨rfl, ⟨nd, rfl⟩⟩) | (go_at_call 31; (with_reducible refine (tremaref02_in.calls a0 330 374 false _ A39.out).mono ?_); rintro e w' ⟨rfl, ⟨nd, rfl⟩⟩) | (go_at_call 31; (with_reducible refine (tremaref02_in.calls a0 7680 7828 false _ A43.out).mono ?_); rintro e w' ⟨rfl, ⟨nd, rfl⟩⟩) | (go_at_call 31; (with_reducible refine (tremaref02_in.calls a0 313 327 true _ A48.out).mono ?_); rintro e w' ⟨rfl, ⟨nd, rfl⟩⟩) | ((with_reducible refine gate_dst (N := 79) rfl ?_); refine Kd.R_lit (Kd.int .i32) _ 21 ?hg (N := 79) ?hd (xs := ([wrap32 (a0 + 1)] : List Int)) (inner := [.int .i32 (wrap32 (a0 + 1))]) (ok := fun _ => True) (okp := fun _ => True) ?hr ?hp (fun _ hk => hk) trivial (Below.refl _ _) (Nat.le_refl _) (by simp) ?_; (case hd => rfl); (case hg => rfl); (case hr => first | (go_simp; done) | (go_simp; rfl)); (case hp => exact (Reps.one (show Kd.M (Kd.int .i32) _ _ _ (wrap32 (a0 + 1)) [.int .i32 (wrap32 (a0 + 1))] from rfl) (Reps.none _ _))); intro v366 w50 ho51 hb hg_ hnew_; clear hg_ hnew_; (first | rw [← Ny365.out] at ho51 | (simp only [Int.reduceToNat] at ho51; rw [← Ny365.out] at ho51)); have n0_ := Aside0.mk (Kd.R_lower ho51 (below_size (by repeat (first | (with_reducible first | exact HB.out | apply below_alloc | apply pw_below_drewN | apply below_drew1) | exact HB.out)))); have n1_ := Aside0.mk (below_step (by repeat (first | (with_reducible first | exact HB.out | apply below_alloc | apply pw_below_drewN | apply below_drew1) | exact HB.out)) hb); clear HB; have HO367 := n0_; have HB := n1_; clear n0_ n1_; clear hb ho51))
               go_ret
               exact ⟨_, by first | rfl | (simp [errW_none, errW_some] <;> rfl) | (simp [*, errW_none, errW_some] <;> rfl), by (with_reducible repeat (first | apply Kd.R_alloc | apply Kd.R_drewN | apply Kd.R_drew)); exact HO367.out, by repeat (first | (with_reducible first | exact HB.out | apply below_alloc | apply pw_below_drewN | apply below_drew1) | exact HB.out)⟩
              ·replace c49 := Bool.eq_false_iff.mpr c49
               subst c49
               have H1 : ((tremaref02_in.f a0 377 381).bind fun t368 => (if t368 = true then (some (([wrap32 (a0 + 1)] : List Int))) else (if a0 = 223 then (some (([115, 115] : List Int))) else (if a0 = 7838 then (some (([115, 115] : List Int))) else (if a0 = 304 then (some (([105, 775] : List Int))) else (tremaref02_Fold.l0 k a0 (([181, 376, 383, 837, 902, 962, 8486, 8490, 8491] : List Int)) (([956, 255, 115, 953, 940, 963, 969, 107, 229] : List Int)) 0)))))) = some r := by rw [if_neg (show ¬ (false = true) by decide)] at H; exact H
               clear H
               have H := H1
               clear H1
               replace H := Option.bind_eq_some_iff.mp H
               obtain ⟨t368, A520, H⟩ := H
               replace H : (if t368 = true then (some (([wrap32 (a0 + 1)] : List Int))) else (if a0 = 223 then (some (([115, 115] : List Int))) else (if a0 = 7838 then (some (([115, 115] : List Int))) else (if a0 = 304 then (some (([105, 775] : List Int))) else (tremaref02_Fold.l0 k a0 (([181, 376, 383, 837, 902, 962, 8486, 8490, 8491] : List Int)) (([956, 255, 115, 953, 940, 963, 969, 107, 229] : List Int)) 0))))) = some r := H
               have A52 := Aside0.mk A520
               clear A520
               by_cases c53 : t368 = true
               ·subst c53
                have H1 : (some (([wrap32 (a0 + 1)] : List Int))) = some r := by rw [if_pos rfl] at H; exact H
                clear H
                have H := H1
                clear H1
                obtain ⟨y369, hy369⟩ : ∃ y_ : List Int, y_ = (([wrap32 (a0 + 1)] : List Int)) := ⟨_, rfl⟩
                replace H : (some y369) = some r := by first | (rw [hy369]; with_reducible exact H) | (have H2_ := (Option.bind_some _ _).symm.trans H; rw [hy369]; with_reducible exact H2_) | (have H2_ := (Option.bind_some _ _).symm.trans H; with_reducible exact H2_) | with_reducible exact H | (rw [hy369]; exact H) | exact H
                have Ny369 := Aside0.mk hy369
                clear hy369
                obtain rfl := Option.some.inj H
                go_enter Tryd.func26, Tryd.ntmps26
                go_wp2_with (first | ((with_reducible refine gate_callee (f := 31) rfl ?_); refine goesL_ (some 16) rfl rfl Tryd.func31 (by kernel_rfl) rfl #[.int .i32 a0, .int .i32 65, .int .i32 90] rfl (by (try simp only [List.map_toArray, List.map_cons, List.map_nil]); first | done | rfl | (simp only [List.length_drop, List.length_take]; rfl)) ?_; (with_reducible refine (tremaref02_in.calls a0 65 90 false _ A2.out).mono ?_); rintro e w' ⟨rfl, ⟨nd, rfl⟩⟩; refine ⟨_, rfl, ?_⟩) | (go_at_call 31; (with_reducible refine (tremaref02_in.calls a0 192 214 false _ A6.out).mono ?_); rintro e w' ⟨rfl, ⟨nd, rfl⟩⟩) | (go_at_call 31; (with_reducible refine (tremaref02_in.calls a0 216 222 false _ A10.out).mono ?_); rintro e w' ⟨rfl, ⟨nd, rfl⟩⟩) | (go_at_call 31; (with_reducible refine (tremaref02_in.calls a0 913 929 false _ A14.out).mono ?_); rintro e w' ⟨rfl, ⟨nd, rfl⟩⟩) | (go_at_call 31; (with_reducible refine (tremaref02_in.calls a0 931 937 false _ A18.out).mono ?_); rintro e w' ⟨rfl, ⟨nd, rfl⟩⟩) | (go_at_call 31; (with_reducible refine (tremaref02_in.calls a0 1040 1071 false _ A22.out).mono ?_); rintro e w' ⟨rfl, ⟨nd, rfl⟩⟩) | ((with_reducible refine gate_callee (f := 31) rfl ?_); refine goesL_ (some 42) rfl rfl Tryd.func31 (by kernel_rfl) rfl #[.int .i32 a0, .int .i32 1024, .int .i32 1039] rfl (by (try simp only [List.map_toArray, List.map_cons, List.map_nil]); first | done | rfl | (simp only [List.length_drop, List.length_take]; rfl)) ?_; (with_reducible refine (tremaref02_in.calls a0 1024 1039 false _ A26.out).mono ?_); rintro e w' ⟨rfl, ⟨nd, rfl⟩⟩; refine ⟨_, rfl, ?_⟩) | (go_at_call 31; (with_reducible refine (tremaref02_in.calls a0 256 302 false _ A31.out).mono ?_); rintro e w' ⟨rfl, ⟨nd, rfl⟩⟩) | (go_at_call 31; (with_reducible refine (tremaref02_in.calls a0 306 310 false _ A35.out).mono ?_); rintro e w' ⟨rfl, ⟨nd, rfl⟩⟩) | (go_at_call 31; (with_reducible refine (tremaref02_in.calls a0 330 374 false _ A39.out).mono ?_); rintro e w' ⟨rfl, ⟨nd, rfl⟩⟩) | (go_at_call 31; (with_reducible refine (tremaref02_in.calls a0 7680 7828 false _ A43.out).mono ?_); rintro e w' ⟨rfl, ⟨nd, rfl⟩⟩) | (go_at_call 31; (with_reducible refine (tremaref02_in.calls a0 313 327 false _ A48.out).mono ?_); rintro e w' ⟨rfl, ⟨nd, rfl⟩⟩) | (go_at_call 31; (with_reducible refine (tremaref02_in.calls a0 377 381 true _ A52.out).mono ?_); rintro e w' ⟨rfl, ⟨nd, rfl⟩⟩) | ((with_reducible refine gate_dst (N := 79) rfl ?_); refine Kd.R_lit (Kd.int .i32) _ 21 ?hg (N := 79) ?hd (xs := ([wrap32 (a0 + 1)] : List Int)) (inner := [.int .i32 (wrap32 (a0 + 1))]) (ok := fun _ => True) (okp := fun _ => True) ?hr ?hp (fun _ hk => hk) trivial (Below.refl _ _) (Nat.le_refl _) (by simp) ?_; (case hd => rfl); (case hg => rfl); (case hr => first | (go_simp; done) | (go_simp; rfl)); (case hp => exact (Reps.one (show Kd.M (Kd.int .i32) _ _ _ (wrap32 (a0 + 1)) [.int .i32 (wrap32 (a0 + 1))] from rfl) (Reps.none _ _))); intro v370 w54 ho55 hb hg_ hnew_; clear hg_ hnew_; (first | rw [← Ny369.out] at ho55 | (simp only [Int.reduceToNat] at ho55; rw [← Ny369.out] at ho55)); have n0_ := Aside0.mk (Kd.R_lower ho55 (below_size (by repeat (first | (with_reducible first | exact HB.out | apply below_alloc | apply pw_below_drewN | apply below_drew1) | exact HB.out)))); have n1_ := Aside0.mk (below_step (by repeat (first | (with_reducible first | exact HB.out | apply below_alloc | apply pw_below_drewN | apply below_drew1) | exact HB.out)) hb); clear HB; have HO371 := n0_; have HB := n1_; clear n0_ n1_; clear hb ho55))
                go_ret
                exact ⟨_, by first | rfl | (simp [errW_none, errW_some] <;> rfl) | (simp [*, errW_none, errW_some] <;> rfl), by (with_reducible repeat (first | apply Kd.R_alloc | apply Kd.R_drewN | apply Kd.R_drew)); exact HO371.out, by repeat (first | (with_reducible first | exact HB.out | apply below_alloc | apply pw_below_drewN | apply below_drew1) | exact HB.out)⟩
               ·replace c53 := Bool.eq_false_iff.mpr c53
                subst c53
                have H1 : (if a0 = 223 then (some (([115, 115] : List Int))) else (if a0 = 7838 then (some (([115, 115] : List Int))) else (if a0 = 304 then (some (([105, 775] : List Int))) else (tremaref02_Fold.l0 k a0 (([181, 376, 383, 837, 902, 962, 8486, 8490, 8491] : List Int)) (([956, 255, 115, 953, 940, 963, 969, 107, 229] : List Int)) 0)))) = some r := by rw [if_neg (show ¬ (false = true) by decide)] at H; exact H
                clear H
                have H := H1
                clear H1
                by_cases c56 : a0 = 223
                ·rw [if_pos c56] at H
                 have c56b0 : (a0 == 223) = true := beq_iff_eq.mpr c56
                 have c56b1 : (a0 != 223) = false := bne_eq_false_iff_eq.mpr c56
                 clear c56
                 obtain ⟨y372, hy372⟩ : ∃ y_ : List Int, y_ = (([115, 115] : List Int)) := ⟨_, rfl⟩
                 replace H : (some y372) = some r := by first | (rw [hy372]; with_reducible exact H) | (have H2_ := (Option.bind_some _ _).symm.trans H; rw [hy372]; with_reducible exact H2_) | (have H2_ := (Option.bind_some _ _).symm.trans H; with_reducible exact H2_) | with_reducible exact H | (rw [hy372]; exact H) | exact H
                 have Ny372 := Aside0.mk hy372
                 clear hy372
                 obtain rfl := Option.some.inj H
                 go_enter Tryd.func26, Tryd.ntmps26
                 go_wp2_with (first | ((with_reducible refine gate_callee (f := 31) rfl ?_); refine goesL_ (some 16) rfl rfl Tryd.func31 (by kernel_rfl) rfl #[.int .i32 a0, .int .i32 65, .int .i32 90] rfl (by (try simp only [List.map_toArray, List.map_cons, List.map_nil]); first | done | rfl | (simp only [List.length_drop, List.length_take]; rfl)) ?_; (with_reducible refine (tremaref02_in.calls a0 65 90 false _ A2.out).mono ?_); rintro e w' ⟨rfl, ⟨nd, rfl⟩⟩; refine ⟨_, rfl, ?_⟩) | (go_at_call 31; (with_reducible refine (tremaref02_in.calls a0 192 214 false _ A6.out).mono ?_); rintro e w' ⟨rfl, ⟨nd, rfl⟩⟩) | (go_at_call 31; (with_reducible refine (tremaref02_in.calls a0 216 222 false _ A10.out).mono ?_); rintro e w' ⟨rfl, ⟨nd, rfl⟩⟩) | (go_at_call 31; (with_reducible refine (tremaref02_in.calls a0 913 929 false _ A14.out).mono ?_); rintro e w' ⟨rfl, ⟨nd, rfl⟩⟩) | (go_at_call 31; (with_reducible refine (tremaref02_in.calls a0 931 937 false _ A18.out).mono ?_); rintro e w' ⟨rfl, ⟨nd, rfl⟩⟩) | (go_at_call 31; (with_reducible refine (tremaref02_in.calls a0 1040 1071 false _ A22.out).mono ?_); rintro e w' ⟨rfl, ⟨nd, rfl⟩⟩) | ((with_reducible refine gate_callee (f := 31) rfl ?_); refine goesL_ (some 42) rfl rfl Tryd.func31 (by kernel_rfl) rfl #[.int .i32 a0, .int .i32 1024, .int .i32 1039] rfl (by (try simp only [List.map_toArray, List.map_cons, List.map_nil]); first | done | rfl | (simp only [List.length_drop, List.length_take]; rfl)) ?_; (with_reducible refine (tremaref02_in.calls a0 1024 1039 false _ A26.out).mono ?_); rintro e w' ⟨rfl, ⟨nd, rfl⟩⟩; refine ⟨_, rfl, ?_⟩) | (go_at_call 31; (with_reducible refine (tremaref02_in.calls a0 256 302 false _ A31.out).mono ?_); rintro e w' ⟨rfl, ⟨nd, rfl⟩⟩) | (go_at_call 31; (with_reducible refine (tremaref02_in.calls a0 306 310 false _ A35.out).mono ?_); rintro e w' ⟨rfl, ⟨nd, rfl⟩⟩) | (go_at_call 31; (with_reducible refine (tremaref02_in.calls a0 330 374 false _ A39.out).mono ?_); rintro e w' ⟨rfl, ⟨nd, rfl⟩⟩) | (go_at_call 31; (with_reducible refine (tremaref02_in.calls a0 7680 7828 false _ A43.out).mono ?_); rintro e w' ⟨rfl, ⟨nd, rfl⟩⟩) | (go_at_call 31; (with_reducible refine (tremaref02_in.calls a0 313 327 false _ A48.out).mono ?_); rintro e w' ⟨rfl, ⟨nd, rfl⟩⟩) | (go_at_call 31; (with_reducible refine (tremaref02_in.calls a0 377 381 false _ A52.out).mono ?_); rintro e w' ⟨rfl, ⟨nd, rfl⟩⟩) | ((with_reducible refine gate_dst (N := 87) rfl ?_); refine Kd.R_lit (Kd.int .i32) _ 21 ?hg (N := 87) ?hd (xs := ([115, 115] : List Int)) (inner := [.int .i32 115, .int .i32 115]) (ok := fun _ => True) (okp := fun _ => True) ?hr ?hp (fun _ hk => hk) trivial (Below.refl _ _) (Nat.le_refl _) (by simp) ?_; (case hd => rfl); (case hg => rfl); (case hr => first | (go_simp; done) | (go_simp; rfl)); (case hp => exact (Reps.one (show Kd.M (Kd.int .i32) _ _ _ 115 [.int .i32 115] from rfl) (Reps.one (show Kd.M (Kd.int .i32) _ _ _ 115 [.int .i32 115] from rfl) (Reps.none _ _)))); intro v373 w57 ho58 hb hg_ hnew_; clear hg_ hnew_; (first | rw [← Ny372.out] at ho58 | (simp only [Int.reduceToNat] at ho58; rw [← Ny372.out] at ho58)); have n0_ := Aside0.mk (Kd.R_lower ho58 (below_size (by repeat (first | (with_reducible first | exact HB.out | apply below_alloc | apply pw_below_drewN | apply below_drew1) | exact HB.out)))); have n1_ := Aside0.mk (below_step (by repeat (first | (with_reducible first | exact HB.out | apply below_alloc | apply pw_below_drewN | apply below_drew1) | exact HB.out)) hb); clear HB; have HO374 := n0_; have HB := n1_; clear n0_ n1_; clear hb ho58))
                 go_ret
                 exact ⟨_, by first | rfl | (simp [errW_none, errW_some] <;> rfl) | (simp [*, errW_none, errW_some] <;> rfl), by (with_reducible repeat (first | apply Kd.R_alloc | apply Kd.R_drewN | apply Kd.R_drew)); exact HO374.out, by repeat (first | (with_reducible first | exact HB.out | apply below_alloc | apply pw_below_drewN | apply below_drew1) | exact HB.out)⟩
                ·rw [if_neg c56] at H
                 have c56b0 : (a0 == 223) = false := beq_eq_false_iff_ne.mpr c56
                 have c56b1 : (a0 != 223) = true := bne_iff_ne.mpr c56
                 by_cases c59 : a0 = 7838
                 ·rw [if_pos c59] at H
                  have c59b0 : (a0 == 7838) = true := beq_iff_eq.mpr c59
                  have c59b1 : (a0 != 7838) = false := bne_eq_false_iff_eq.mpr c59
                  clear c59
                  obtain ⟨y375, hy375⟩ : ∃ y_ : List Int, y_ = (([115, 115] : List Int)) := ⟨_, rfl⟩
                  replace H : (some y375) = some r := by first | (rw [hy375]; with_reducible exact H) | (have H2_ := (Option.bind_some _ _).symm.trans H; rw [hy375]; with_reducible exact H2_) | (have H2_ := (Option.bind_some _ _).symm.trans H; with_reducible exact H2_) | with_reducible exact H | (rw [hy375]; exact H) | exact H
                  have Ny375 := Aside0.mk hy375
                  clear hy375
                  obtain rfl := Option.some.inj H
                  go_enter Tryd.func26, Tryd.ntmps26
                  go_wp2_with (first | ((with_reducible refine gate_callee (f := 31) rfl ?_); refine goesL_ (some 16) rfl rfl Tryd.func31 (by kernel_rfl) rfl #[.int .i32 a0, .int .i32 65, .int .i32 90] rfl (by (try simp only [List.map_toArray, List.map_cons, List.map_nil]); first | done | rfl | (simp only [List.length_drop, List.length_take]; rfl)) ?_; (with_reducible refine (tremaref02_in.calls a0 65 90 false _ A2.out).mono ?_); rintro e w' ⟨rfl, ⟨nd, rfl⟩⟩; refine ⟨_, rfl, ?_⟩) | (go_at_call 31; (with_reducible refine (tremaref02_in.calls a0 192 214 false _ A6.out).mono ?_); rintro e w' ⟨rfl, ⟨nd, rfl⟩⟩) | (go_at_call 31; (with_reducible refine (tremaref02_in.calls a0 216 222 false _ A10.out).mono ?_); rintro e w' ⟨rfl, ⟨nd, rfl⟩⟩) | (go_at_call 31; (with_reducible refine (tremaref02_in.calls a0 913 929 false _ A14.out).mono ?_); rintro e w' ⟨rfl, ⟨nd, rfl⟩⟩) | (go_at_call 31; (with_reducible refine (tremaref02_in.calls a0 931 937 false _ A18.out).mono ?_); rintro e w' ⟨rfl, ⟨nd, rfl⟩⟩) | (go_at_call 31; (with_reducible refine (tremaref02_in.calls a0 1040 1071 false _ A22.out).mono ?_); rintro e w' ⟨rfl, ⟨nd, rfl⟩⟩) | ((with_reducible refine gate_callee (f := 31) rfl ?_); refine goesL_ (some 42) rfl rfl Tryd.func31 (by kernel_rfl) rfl #[.int .i32 a0, .int .i32 1024, .int .i32 1039] rfl (by (try simp only [List.map_toArray, List.map_cons, List.map_nil]); first | done | rfl | (simp only [List.length_drop, List.length_take]; rfl)) ?_; (with_reducible refine (tremaref02_in.calls a0 1024 1039 false _ A26.out).mono ?_); rintro e w' ⟨rfl, ⟨nd, rfl⟩⟩; refine ⟨_, rfl, ?_⟩) | (go_at_call 31; (with_reducible refine (tremaref02_in.calls a0 256 302 false _ A31.out).mono ?_); rintro e w' ⟨rfl, ⟨nd, rfl⟩⟩) | (go_at_call 31; (with_reducible refine (tremaref02_in.calls a0 306 310 false _ A35.out).mono ?_); rintro e w' ⟨rfl, ⟨nd, rfl⟩⟩) | (go_at_call 31; (with_reducible refine (tremaref02_in.calls a0 330 374 false _ A39.out).mono ?_); rintro e w' ⟨rfl, ⟨nd, rfl⟩⟩) | (go_at_call 31; (with_reducible refine (tremaref02_in.calls a0 7680 7828 false _ A43.out).mono ?_); rintro e w' ⟨rfl, ⟨nd, rfl⟩⟩) | (go_at_call 31; (with_reducible refine (tremaref02_in.calls a0 313 327 false _ A48.out).mono ?_); rintro e w' ⟨rfl, ⟨nd, rfl⟩⟩) | (go_at_call 31; (with_reducible refine (tremaref02_in.calls a0 377 381 false _ A52.out).mono ?_); rintro e w' ⟨rfl, ⟨nd, rfl⟩⟩) | ((with_reducible refine gate_dst (N := 87) rfl ?_); refine Kd.R_lit (Kd.int .i32) _ 21 ?hg (N := 87) ?hd (xs := ([115, 115] : List Int)) (inner := [.int .i32 115, .int .i32 115]) (ok := fun _ => True) (okp := fun _ => True) ?hr ?hp (fun _ hk => hk) trivial (Below.refl _ _) (Nat.le_refl _) (by simp) ?_; (case hd => rfl); (case hg => rfl); (case hr => first | (go_simp; done) | (go_simp; rfl)); (case hp => exact (Reps.one (show Kd.M (Kd.int .i32) _ _ _ 115 [.int .i32 115] from rfl) (Reps.one (show Kd.M (Kd.int .i32) _ _ _ 115 [.int .i32 115] from rfl) (Reps.none _ _)))); intro v376 w60 ho61 hb hg_ hnew_; clear hg_ hnew_; (first | rw [← Ny375.out] at ho61 | (simp only [Int.reduceToNat] at ho61; rw [← Ny375.out] at ho61)); have n0_ := Aside0.mk (Kd.R_lower ho61 (below_size (by repeat (first | (with_reducible first | exact HB.out | apply below_alloc | apply pw_below_drewN | apply below_drew1) | exact HB.out)))); have n1_ := Aside0.mk (below_step (by repeat (first | (with_reducible first | exact HB.out | apply below_alloc | apply pw_below_drewN | apply below_drew1) | exact HB.out)) hb); clear HB; have HO377 := n0_; have HB := n1_; clear n0_ n1_; clear hb ho61))
                  go_ret
                  exact ⟨_, by first | rfl | (simp [errW_none, errW_some] <;> rfl) | (simp [*, errW_none, errW_some] <;> rfl), by (with_reducible repeat (first | apply Kd.R_alloc | apply Kd.R_drewN | apply Kd.R_drew)); exact HO377.out, by repeat (first | (with_reducible first | exact HB.out | apply below_alloc | apply pw_below_drewN | apply below_drew1) | exact HB.out)⟩
                 ·rw [if_neg c59] at H
                  have c59b0 : (a0 == 7838) = false := beq_eq_false_iff_ne.mpr c59
                  have c59b1 : (a0 != 7838) = true := bne_iff_ne.mpr c59
                  by_cases c62 : a0 = 304
                  ·rw [if_pos c62] at H
                   have c62b0 : (a0 == 304) = true := beq_iff_eq.mpr c62
                   have c62b1 : (a0 != 304) = false := bne_eq_false_iff_eq.mpr c62
                   clear c62
                   obtain ⟨y378, hy378⟩ : ∃ y_ : List Int, y_ = (([105, 775] : List Int)) := ⟨_, rfl⟩
                   replace H : (some y378) = some r := by first | (rw [hy378]; with_reducible exact H) | (have H2_ := (Option.bind_some _ _).symm.trans H; rw [hy378]; with_reducible exact H2_) | (have H2_ := (Option.bind_some _ _).symm.trans H; with_reducible exact H2_) | with_reducible exact H | (rw [hy378]; exact H) | exact H
                   have Ny378 := Aside0.mk hy378
                   clear hy378
                   obtain rfl := Option.some.inj H
                   go_enter Tryd.func26, Tryd.ntmps26
                   go_wp2_with (first | ((with_reducible refine gate_callee (f := 31) rfl ?_); refine goesL_ (some 16) rfl rfl Tryd.func31 (by kernel_rfl) rfl #[.int .i32 a0, .int .i32 65, .int .i32 90] rfl (by (try simp only [List.map_toArray, List.map_cons, List.map_nil]); first | done | rfl | (simp only [List.length_drop, List.length_take]; rfl)) ?_; (with_reducible refine (tremaref02_in.calls a0 65 90 false _ A2.out).mono ?_); rintro e w' ⟨rfl, ⟨nd, rfl⟩⟩; refine ⟨_, rfl, ?_⟩) | (go_at_call 31; (with_reducible refine (tremaref02_in.calls a0 192 214 false _ A6.out).mono ?_); rintro e w' ⟨rfl, ⟨nd, rfl⟩⟩) | (go_at_call 31; (with_reducible refine (tremaref02_in.calls a0 216 222 false _ A10.out).mono ?_); rintro e w' ⟨rfl, ⟨nd, rfl⟩⟩) | (go_at_call 31; (with_reducible refine (tremaref02_in.calls a0 913 929 false _ A14.out).mono ?_); rintro e w' ⟨rfl, ⟨nd, rfl⟩⟩) | (go_at_call 31; (with_reducible refine (tremaref02_in.calls a0 931 937 false _ A18.out).mono ?_); rintro e w' ⟨rfl, ⟨nd, rfl⟩⟩) | (go_at_call 31; (with_reducible refine (tremaref02_in.calls a0 1040 1071 false _ A22.out).mono ?_); rintro e w' ⟨rfl, ⟨nd, rfl⟩⟩) | ((with_reducible refine gate_callee (f := 31) rfl ?_); refine goesL_ (some 42) rfl rfl Tryd.func31 (by kernel_rfl) rfl #[.int .i32 a0, .int .i32 1024, .int .i32 1039] rfl (by (try simp only [List.map_toArray, List.map_cons, List.map_nil]); first | done | rfl | (simp only [List.length_drop, List.length_take]; rfl)) ?_; (with_reducible refine (tremaref02_in.calls a0 1024 1039 false _ A26.out).mono ?_); rintro e w' ⟨rfl, ⟨nd, rfl⟩⟩; refine ⟨_, rfl, ?_⟩) | (go_at_call 31; (with_reducible refine (tremaref02_in.calls a0 256 302 false _ A31.out).mono ?_); rintro e w' ⟨rfl, ⟨nd, rfl⟩⟩) | (go_at_call 31; (with_reducible refine (tremaref02_in.calls a0 306 310 false _ A35.out).mono ?_); rintro e w' ⟨rfl, ⟨nd, rfl⟩⟩) | (go_at_call 31; (with_reducible refine (tremaref02_in.calls a0 330 374 false _ A39.out).mono ?_); rintro e w' ⟨rfl, ⟨nd, rfl⟩⟩) | (go_at_call 31; (with_reducible refine (tremaref02_in.calls a0 7680 7828 false _ A43.out).mono ?_); rintro e w' ⟨rfl, ⟨nd, rfl⟩⟩) | (go_at_call 31; (with_reducible refine (tremaref02_in.calls a0 313 327 false _ A48.out).mono ?_); rintro e w' ⟨rfl, ⟨nd, rfl⟩⟩) | (go_at_call 31; (with_reducible refine (tremaref02_in.calls a0 377 381 false _ A52.out).mono ?_); rintro e w' ⟨rfl, ⟨nd, rfl⟩⟩) | ((with_reducible refine gate_dst (N := 91) rfl ?_); refine Kd.R_lit (Kd.int .i32) _ 21 ?hg (N := 91) ?hd (xs := ([105, 775] : List Int)) (inner := [.int .i32 105, .int .i32 775]) (ok := fun _ => True) (okp := fun _ => True) ?hr ?hp (fun _ hk => hk) trivial (Below.refl _ _) (Nat.le_refl _) (by simp) ?_; (case hd => rfl); (case hg => rfl); (case hr => first | (go_simp; done) | (go_simp; rfl)); (case hp => exact (Reps.one (show Kd.M (Kd.int .i32) _ _ _ 105 [.int .i32 105] from rfl) (Reps.one (show Kd.M (Kd.int .i32) _ _ _ 775 [.int .i32 775] from rfl) (Reps.none _ _)))); intro v379 w63 ho64 hb hg_ hnew_; clear hg_ hnew_; (first | rw [← Ny378.out] at ho64 | (simp only [Int.reduceToNat] at ho64; rw [← Ny378.out] at ho64)); have n0_ := Aside0.mk (Kd.R_lower ho64 (below_size (by repeat (first | (with_reducible first | exact HB.out | apply below_alloc | apply pw_below_drewN | apply below_drew1) | exact HB.out)))); have n1_ := Aside0.mk (below_step (by repeat (first | (with_reducible first | exact HB.out | apply below_alloc | apply pw_below_drewN | apply below_drew1) | exact HB.out)) hb); clear HB; have HO380 := n0_; have HB := n1_; clear n0_ n1_; clear hb ho64))
                   go_ret
                   exact ⟨_, by first | rfl | (simp [errW_none, errW_some] <;> rfl) | (simp [*, errW_none, errW_some] <;> rfl), by (with_reducible repeat (first | apply Kd.R_alloc | apply Kd.R_drewN | apply Kd.R_drew)); exact HO380.out, by repeat (first | (with_reducible first | exact HB.out | apply below_alloc | apply pw_below_drewN | apply below_drew1) | exact HB.out)⟩
                  ·rw [if_neg c62] at H
                   have c62b0 : (a0 == 304) = false := beq_eq_false_iff_ne.mpr c62
                   have c62b1 : (a0 != 304) = true := bne_iff_ne.mpr c62
                   obtain ⟨y381, hy381⟩ : ∃ y_ : List Int, y_ = (([181, 376, 383, 837, 902, 962, 8486, 8490, 8491] : List Int)) := ⟨_, rfl⟩
                   replace H : (tremaref02_Fold.l0 k a0 y381 (([956, 255, 115, 953, 940, 963, 969, 107, 229] : List Int)) 0) = some r := by first | (rw [hy381]; with_reducible exact H) | (have H2_ := (Option.bind_some _ _).symm.trans H; rw [hy381]; with_reducible exact H2_) | (have H2_ := (Option.bind_some _ _).symm.trans H; with_reducible exact H2_) | with_reducible exact H | (rw [hy381]; exact H) | exact H
                   have Ny381 := Aside0.mk hy381
                   clear hy381
                   obtain ⟨y384, hy384⟩ : ∃ y_ : List Int, y_ = (([956, 255, 115, 953, 940, 963, 969, 107, 229] : List Int)) := ⟨_, rfl⟩
                   replace H : (tremaref02_Fold.l0 k a0 y381 y384 0) = some r := by first | (rw [hy384]; with_reducible exact H) | (have H2_ := (Option.bind_some _ _).symm.trans H; rw [hy384]; with_reducible exact H2_) | (have H2_ := (Option.bind_some _ _).symm.trans H; with_reducible exact H2_) | with_reducible exact H | (rw [hy384]; exact H) | exact H
                   have Ny384 := Aside0.mk hy384
                   clear hy384
                   have H' := Aside0.mk H
                   clear H
                   go_enter Tryd.func26, Tryd.ntmps26
                   go_wp2_with (first | ((with_reducible refine gate_callee (f := 31) rfl ?_); refine goesL_ (some 16) rfl rfl Tryd.func31 (by kernel_rfl) rfl #[.int .i32 a0, .int .i32 65, .int .i32 90] rfl (by (try simp only [List.map_toArray, List.map_cons, List.map_nil]); first | done | rfl | (simp only [List.length_drop, List.length_take]; rfl)) ?_; (with_reducible refine (tremaref02_in.calls a0 65 90 false _ A2.out).mono ?_); rintro e w' ⟨rfl, ⟨nd, rfl⟩⟩; refine ⟨_, rfl, ?_⟩) | (go_at_call 31; (with_reducible refine (tremaref02_in.calls a0 192 214 false _ A6.out).mono ?_); rintro e w' ⟨rfl, ⟨nd, rfl⟩⟩) | (go_at_call 31; (with_reducible refine (tremaref02_in.calls a0 216 222 false _ A10.out).mono ?_); rintro e w' ⟨rfl, ⟨nd, rfl⟩⟩) | (go_at_call 31; (with_reducible refine (tremaref02_in.calls a0 913 929 false _ A14.out).mono ?_); rintro e w' ⟨rfl, ⟨nd, rfl⟩⟩) | (go_at_call 31; (with_reducible refine (tremaref02_in.calls a0 931 937 false _ A18.out).mono ?_); rintro e w' ⟨rfl, ⟨nd, rfl⟩⟩) | (go_at_call 31; (with_reducible refine (tremaref02_in.calls a0 1040 1071 false _ A22.out).mono ?_); rintro e w' ⟨rfl, ⟨nd, rfl⟩⟩) | ((with_reducible refine gate_callee (f := 31) rfl ?_); refine goesL_ (some 42) rfl rfl Tryd.func31 (by kernel_rfl) rfl #[.int .i32 a0, .int .i32 1024, .int .i32 1039] rfl (by (try simp only [List.map_toArray, List.map_cons, List.map_nil]); first | done | rfl | (simp only [List.length_drop, List.length_take]; rfl)) ?_; (with_reducible refine (tremaref02_in.calls a0 1024 1039 false _ A26.out).mono ?_); rintro e w' ⟨rfl, ⟨nd, rfl⟩⟩; refine ⟨_, rfl, ?_⟩) | (go_at_call 31; (with_reducible refine (tremaref02_in.calls a0 256 302 false _ A31.out).mono ?_); rintro e w' ⟨rfl, ⟨nd, rfl⟩⟩) | (go_at_call 31; (with_reducible refine (tremaref02_in.calls a0 306 310 false _ A35.out).mono ?_); rintro e w' ⟨rfl, ⟨nd, rfl⟩⟩) | (go_at_call 31; (with_reducible refine (tremaref02_in.calls a0 330 374 false _ A39.out).mono ?_); rintro e w' ⟨rfl, ⟨nd, rfl⟩⟩) | (go_at_call 31; (with_reducible refine (tremaref02_in.calls a0 7680 7828 false _ A43.out).mono ?_); rintro e w' ⟨rfl, ⟨nd, rfl⟩⟩) | (go_at_call 31; (with_reducible refine (tremaref02_in.calls a0 313 327 false _ A48.out).mono ?_); rintro e w' ⟨rfl, ⟨nd, rfl⟩⟩) | (go_at_call 31; (with_reducible refine (tremaref02_in.calls a0 377 381 false _ A52.out).mono ?_); rintro e w' ⟨rfl, ⟨nd, rfl⟩⟩) | ((with_reducible refine gate_dst (N := 92) rfl ?_); refine Kd.R_lit (Kd.int .i32) _ 21 ?hg (N := 92) ?hd (xs := ([181, 376, 383, 837, 902, 962, 8486, 8490, 8491] : List Int)) (inner := [.int .i32 181, .int .i32 376, .int .i32 383, .int .i32 837, .int .i32 902, .int .i32 962, .int .i32 8486, .int .i32 8490, .int .i32 8491]) (ok := fun _ => True) (okp := fun _ => True) ?hr ?hp (fun _ hk => hk) trivial (Below.refl _ _) (Nat.le_refl _) (by simp) ?_; (case hd => rfl); (case hg => rfl); (case hr => first | (go_simp; done) | (go_simp; rfl)); (case hp => exact (Reps.one (show Kd.M (Kd.int .i32) _ _ _ 181 [.int .i32 181] from rfl) (Reps.one (show Kd.M (Kd.int .i32) _ _ _ 376 [.int .i32 376] from rfl) (Reps.one (show Kd.M (Kd.int .i32) _ _ _ 383 [.int .i32 383] from rfl) (Reps.one (show Kd.M (Kd.int .i32) _ _ _ 837 [.int .i32 837] from rfl) (Reps.one (show Kd.M (Kd.int .i32) _ _ _ 902 [.int .i32 902] from rfl) (Reps.one (show Kd.M (Kd.int .i32) _ _ _ 962 [.int .i32 962] from rfl) (Reps.one (show Kd.M (Kd.int .i32) _ _ _ 8486 [.int .i32 8486] from rfl) (Reps.one (show Kd.M (Kd.int .i32) _ _ _ 8490 [.int .i32 8490] from rfl) (Reps.one (show Kd.M (Kd.int .i32) _ _ _ 8491 [.int .i32 8491] from rfl) (Reps.none _ _))))))))))); intro v382 w65 ho66 hb hg_ hnew_; clear hg_ hnew_; (first | rw [← Ny381.out] at ho66 | (simp only [Int.reduceToNat] at ho66; rw [← Ny381.out] at ho66)); have n0_ := Aside0.mk (Kd.R_lower ho66 (below_size (by repeat (first | (with_reducible first | exact HB.out | apply below_alloc | apply pw_below_drewN | apply below_drew1) | exact HB.out)))); have n1_ := Aside0.mk (below_step (by repeat (first | (with_reducible first | exact HB.out | apply below_alloc | apply pw_below_drewN | apply below_drew1) | exact HB.out)) hb); clear HB; have HO383 := n0_; have HB := n1_; clear n0_ n1_; clear hb ho66) | ((with_reducible refine gate_dst (N := 93) rfl ?_); refine Kd.R_lit (Kd.int .i32) _ 21 ?hg (N := 93) ?hd (xs := ([956, 255, 115, 953, 940, 963, 969, 107, 229] : List Int)) (inner := [.int .i32 956, .int .i32 255, .int .i32 115, .int .i32 953, .int .i32 940, .int .i32 963, .int .i32 969, .int .i32 107, .int .i32 229]) (ok := fun _ => True) (okp := fun _ => True) ?hr ?hp (fun _ hk => hk) trivial (Below.refl _ _) (Nat.le_refl _) (by simp) ?_; (case hd => rfl); (case hg => rfl); (case hr => first | (go_simp; done) | (go_simp; rfl)); (case hp => exact (Reps.one (show Kd.M (Kd.int .i32) _ _ _ 956 [.int .i32 956] from rfl) (Reps.one (show Kd.M (Kd.int .i32) _ _ _ 255 [.int .i32 255] from rfl) (Reps.one (show Kd.M (Kd.int .i32) _ _ _ 115 [.int .i32 115] from rfl) (Reps.one (show Kd.M (Kd.int .i32) _ _ _ 953 [.int .i32 953] from rfl) (Reps.one (show Kd.M (Kd.int .i32) _ _ _ 940 [.int .i32 940] from rfl) (Reps.one (show Kd.M (Kd.int .i32) _ _ _ 963 [.int .i32 963] from rfl) (Reps.one (show Kd.M (Kd.int .i32) _ _ _ 969 [.int .i32 969] from rfl) (Reps.one (show Kd.M (Kd.int .i32) _ _ _ 107 [.int .i32 107] from rfl) (Reps.one (show Kd.M (Kd.int .i32) _ _ _ 229 [.int .i32 229] from rfl) (Reps.none _ _))))))))))); intro v385 w67 ho68 hb hg_ hnew_; clear hg_ hnew_; (first | rw [← Ny384.out] at ho68 | (simp only [Int.reduceToNat] at ho68; rw [← Ny384.out] at ho68)); have n0_ := Aside0.mk (Kd.R_elder' (by (with_reducible repeat (first | apply Kd.R_alloc | apply Kd.R_drewN | apply Kd.R_drew)); exact HO383.out) (Kd.R_base ho68) hb); have n1_ := Aside0.mk (Kd.R_lower (Kd.R_new' ho68 (Kd.R_lt (by (with_reducible repeat (first | apply Kd.R_alloc | apply Kd.R_drewN | apply Kd.R_drew)); exact HO383.out))) (below_size (by repeat (first | (with_reducible first | exact HB.out | apply below_alloc | apply pw_below_drewN | apply below_drew1) | exact HB.out)))); have n2_ := Aside0.mk (below_step (by repeat (first | (with_reducible first | exact HB.out | apply below_alloc | apply pw_below_drewN | apply below_drew1) | exact HB.out)) hb); clear HO383; clear HB; have HO383 := n0_; have HO386 := n1_; have HB := n2_; clear n0_ n1_ n2_; clear hb ho68))
                   go_loopg [7] k (fun kq v7 w' => ∃ (x7_1 : Int), v7 = .int .i64 x7_1 ∧ Aside0 (tremaref02_Fold.l0 kq a0 y381 y384 x7_1 = some r) ∧ Aside0 (kq ≤ k) ∧ Aside0 (Kd.R (Kd.int .i32) 21 w' w.heap.size (fun k_ => some k_ ≠ (v385 : Value).ownBlock) v382 y381) ∧ Aside0 (Kd.R (Kd.int .i32) 21 w' w.heap.size (fun k_ => some k_ ≠ (v382 : Value).ownBlock) v385 y384) ∧ Aside0 (Below w.heap.size w w'))
                   case atStart => exact ⟨(0), (by first | rfl | (simp; done) | (simp [*]; done)), H', ⟨Nat.le_refl _⟩, ⟨by (with_reducible repeat (first | apply Kd.R_alloc | apply Kd.R_drewN | apply Kd.R_drew)); exact Kd.R_mono HO383.out (fun _ hk => hk.2)⟩, ⟨by (with_reducible repeat (first | apply Kd.R_alloc | apply Kd.R_drewN | apply Kd.R_drew)); exact Kd.R_mono HO386.out (fun _ hk => hk.2)⟩, ⟨by repeat (first | (with_reducible first | exact HB.out | apply below_alloc | apply pw_below_drewN | apply below_drew1) | exact HB.out)⟩⟩
                   case round =>
                    clear H'
                    try clear c1
                    try clear c2
                    try clear p2
                    try clear c3
                    try clear p3
                    try clear c4
                    try clear c5
                    try clear c6
                    try clear c7
                    try clear c11
                    try clear c15
                    try clear c19
                    try clear c23
                    try clear c26
                    try clear c27
                    try clear c30
                    try clear c30b0
                    try clear c30b1
                    try clear c31
                    try clear c32
                    try clear p32
                    try clear c36
                    try clear c40
                    try clear c44
                    try clear c47
                    try clear c47b0
                    try clear c47b1
                    try clear c49
                    try clear c53
                    try clear c56
                    try clear c56b0
                    try clear c56b1
                    try clear c59
                    try clear c59b0
                    try clear c59b1
                    try clear c62
                    try clear c62b0
                    try clear c62b1
                    obtain ⟨x7_1, rfl, HA, HK1, HO_5, HO_6, HB⟩ := hrel
                    cases gk with
                    | zero => exact absurd HA.out (by simp [tremaref02_Fold.l0])
                    | succ k1 =>
                     have H := HA.out
                     clear HA
                     simp only [tremaref02_Fold.l0] at H
                     by_cases c69 : x7_1 < (y381.length : Int)
                     ·rw [if_pos c69] at H
                      have c69b0 : decide (x7_1 < (y381.length : Int)) = true := decide_eq_true c69
                      clear c69
                      by_cases c70 : 0 ≤ x7_1
                      ·rw [if_pos c70] at H
                       have c70b0 : decide (0 ≤ x7_1) = true := decide_eq_true c70
                       clear c70
                       by_cases c71 : a0 = (rd y381 x7_1)
                       ·rw [if_pos c71] at H
                        have c71b0 : (a0 == (rd y381 x7_1)) = true := beq_iff_eq.mpr c71
                        have c71b1 : (a0 != (rd y381 x7_1)) = false := bne_eq_false_iff_eq.mpr c71
                        clear c71
                        by_cases c72 : x7_1 < (y384.length : Int)
                        ·rw [if_pos c72] at H
                         have c72b0 : decide (x7_1 < (y384.length : Int)) = true := decide_eq_true c72
                         clear c72
                         obtain ⟨y389, hy389⟩ : ∃ y_ : List Int, y_ = (([rd y384 x7_1] : List Int)) := ⟨_, rfl⟩
                         replace H : (some y389) = some r := by first | (rw [hy389]; with_reducible exact H) | (have H2_ := (Option.bind_some _ _).symm.trans H; rw [hy389]; with_reducible exact H2_) | (have H2_ := (Option.bind_some _ _).symm.trans H; with_reducible exact H2_) | with_reducible exact H | (rw [hy389]; exact H) | exact H
                         have Ny389 := Aside0.mk hy389
                         clear hy389
                         obtain rfl := Option.some.inj H
                         obtain ⟨Ao73, co73, eo73⟩ := Kd.R_slice HO_5.out
                         subst eo73
                         have p387 : 0 ≤ (x7_1 : Int) := of_decide_eq_true (by first | (with_reducible assumption) | assumption)
                         have q387 : x7_1 < (y381.length : Int) := of_decide_eq_true (by first | (with_reducible assumption) | assumption)
                         obtain ⟨ad387, e387, hx387_0⟩ := Kd.at_int (Kd.R_reads' HO_5.out).2.2 x7_1 p387 q387
                         cases e387
                         replace p387 := eq_true p387
                         replace q387 := eq_true q387
                         obtain ⟨Ao74, co74, eo74⟩ := Kd.R_slice HO_6.out
                         subst eo74
                         have p388 : 0 ≤ (x7_1 : Int) := of_decide_eq_true (by first | (with_reducible assumption) | assumption)
                         have q388 : x7_1 < (y384.length : Int) := of_decide_eq_true (by first | (with_reducible assumption) | assumption)
                         obtain ⟨ad388, e388, hx388_0⟩ := Kd.at_int (Kd.R_reads' HO_6.out).2.2 x7_1 p388 q388
                         cases e388
                         replace p388 := eq_true p388
                         replace q388 := eq_true q388
                         go_wp2_with (first | ((with_reducible refine gate_dst (N := 110) rfl ?_); refine Kd.R_lit (Kd.int .i32) _ 21 ?hg (N := 110) ?hd (xs := ([rd y384 x7_1] : List Int)) (inner := [.int .i32 (rd y384 x7_1)]) (ok := fun _ => True) (okp := fun _ => True) ?hr ?hp (fun _ hk => hk) trivial (Below.refl _ _) (Nat.le_refl _) (by simp) ?_; (case hd => rfl); (case hg => rfl); (case hr => first | (go_simp; done) | (go_simp; rfl)); (case hp => exact (Reps.one (show Kd.M (Kd.int .i32) _ _ _ (rd y384 x7_1) [.int .i32 (rd y384 x7_1)] from rfl) (Reps.none _ _))); intro v390 w75 ho76 hb hg_ hnew_; clear hg_ hnew_; (first | rw [← Ny389.out] at ho76 | (simp only [Int.reduceToNat] at ho76; rw [← Ny389.out] at ho76)); have n0_ := Aside0.mk (Kd.R_elder' (by (with_reducible repeat (first | apply Kd.R_alloc | apply Kd.R_drewN | apply Kd.R_drew)); exact HO_5.out) (Kd.R_base ho76) hb); have n1_ := Aside0.mk (Kd.R_elder' (by (with_reducible repeat (first | apply Kd.R_alloc | apply Kd.R_drewN | apply Kd.R_drew)); exact HO_6.out) (Kd.R_base ho76) hb); have n2_ := Aside0.mk (Kd.R_lower (Kd.R_new' (Kd.R_new' ho76 (Kd.R_lt (by (with_reducible repeat (first | apply Kd.R_alloc | apply Kd.R_drewN | apply Kd.R_drew)); exact HO_5.out))) (Kd.R_lt (by (with_reducible repeat (first | apply Kd.R_alloc | apply Kd.R_drewN | apply Kd.R_drew)); exact HO_6.out))) (below_size (by repeat (first | (with_reducible first | exact HB.out | apply below_alloc | apply pw_below_drewN | apply below_drew1) | exact HB.out)))); have n3_ := Aside0.mk (below_step (by repeat (first | (with_reducible first | exact HB.out | apply below_alloc | apply pw_below_drewN | apply below_drew1) | exact HB.out)) hb); clear HO_5; clear HO_6; clear HB; have HO_5 := n0_; have HO_6 := n1_; have HO391 := n2_; have HB := n3_; clear n0_ n1_ n2_ n3_; clear hb ho76))
                         go_ret
                         exact ⟨_, by first | rfl | (simp [errW_none, errW_some] <;> rfl) | (simp [*, errW_none, errW_some] <;> rfl), by (with_reducible repeat (first | apply Kd.R_alloc | apply Kd.R_drewN | apply Kd.R_drew)); exact Kd.R_mono HO391.out (fun _ hk => trivial), by repeat (first | (with_reducible first | exact HB.out | apply below_alloc | apply pw_below_drewN | apply below_drew1) | exact HB.out)⟩
                        ·rw [if_neg c72] at H
                         exact absurd H (by simp)
                       ·rw [if_neg c71] at H
                        have c71b0 : (a0 == (rd y381 x7_1)) = false := beq_eq_false_iff_ne.mpr c71
                        have c71b1 : (a0 != (rd y381 x7_1)) = true := bne_iff_ne.mpr c71
                        have H' := Aside0.mk H
                        clear H
                        obtain ⟨Ao77, co77, eo77⟩ := Kd.R_slice HO_5.out
                        subst eo77
                        have p387 : 0 ≤ (x7_1 : Int) := of_decide_eq_true (by first | (with_reducible assumption) | assumption)
                        have q387 : x7_1 < (y381.length : Int) := of_decide_eq_true (by first | (with_reducible assumption) | assumption)
                        obtain ⟨ad387, e387, hx387_0⟩ := Kd.at_int (Kd.R_reads' HO_5.out).2.2 x7_1 p387 q387
                        cases e387
                        replace p387 := eq_true p387
                        replace q387 := eq_true q387
                        go_wp2
                        go_roundg k1
                        case measure => have := HK1.out; omega
                        case rel => exact ⟨(wrap64 (x7_1 + 1)), (by first | rfl | (simp; done) | (simp [*]; done)), H', ⟨by have := HK1.out; omega⟩, ⟨by (with_reducible repeat (first | apply Kd.R_alloc | apply Kd.R_drewN | apply Kd.R_drew)); exact HO_5.out⟩, ⟨by (with_reducible repeat (first | apply Kd.R_alloc | apply Kd.R_drewN | apply Kd.R_drew)); exact HO_6.out⟩, ⟨by repeat (first | (with_reducible first | exact HB.out | apply below_alloc | apply pw_below_drewN | apply below_drew1) | exact HB.out)⟩⟩
                      ·rw [if_neg c70] at H
                       exact absurd H (by simp)
                     ·rw [if_neg c69] at H
                      have c69b0 : decide (x7_1 < (y381.length : Int)) = false := decide_eq_false c69
                      clear c69
                      obtain ⟨y392, hy392⟩ : ∃ y_ : List Int, y_ = (([a0] : List Int)) := ⟨_, rfl⟩
                      replace H : (some y392) = some r := by first | (rw [hy392]; with_reducible exact H) | (have H2_ := (Option.bind_some _ _).symm.trans H; rw [hy392]; with_reducible exact H2_) | (have H2_ := (Option.bind_some _ _).symm.trans H; with_reducible exact H2_) | with_reducible exact H | (rw [hy392]; exact H) | exact H
                      have Ny392 := Aside0.mk hy392
                      clear hy392
                      obtain rfl := Option.some.inj H
                      obtain ⟨Ao78, co78, eo78⟩ := Kd.R_slice HO_5.out
                      subst eo78
                      go_wp2_with (first | ((with_reducible refine gate_dst (N := 112) rfl ?_); refine Kd.R_lit (Kd.int .i32) _ 21 ?hg (N := 112) ?hd (xs := ([a0] : List Int)) (inner := [.int .i32 a0]) (ok := fun _ => True) (okp := fun _ => True) ?hr ?hp (fun _ hk => hk) trivial (Below.refl _ _) (Nat.le_refl _) (by simp) ?_; (case hd => rfl); (case hg => rfl); (case hr => first | (go_simp; done) | (go_simp; rfl)); (case hp => exact (Reps.one (show Kd.M (Kd.int .i32) _ _ _ a0 [.int .i32 a0] from rfl) (Reps.none _ _))); intro v393 w79 ho80 hb hg_ hnew_; clear hg_ hnew_; (first | rw [← Ny392.out] at ho80 | (simp only [Int.reduceToNat] at ho80; rw [← Ny392.out] at ho80)); have n0_ := Aside0.mk (Kd.R_elder' (by (with_reducible repeat (first | apply Kd.R_alloc | apply Kd.R_drewN | apply Kd.R_drew)); exact HO_5.out) (Kd.R_base ho80) hb); have n1_ := Aside0.mk (Kd.R_elder' (by (with_reducible repeat (first | apply Kd.R_alloc | apply Kd.R_drewN | apply Kd.R_drew)); exact HO_6.out) (Kd.R_base ho80) hb); have n2_ := Aside0.mk (Kd.R_lower (Kd.R_new' (Kd.R_new' ho80 (Kd.R_lt (by (with_reducible repeat (first | apply Kd.R_alloc | apply Kd.R_drewN | apply Kd.R_drew)); exact HO_5.out))) (Kd.R_lt (by (with_reducible repeat (first | apply Kd.R_alloc | apply Kd.R_drewN | apply Kd.R_drew)); exact HO_6.out))) (below_size (by repeat (first | (with_reducible first | exact HB.out | apply below_alloc | apply pw_below_drewN | apply below_drew1) | exact HB.out)))); have n3_ := Aside0.mk (below_step (by repeat (first | (with_reducible first | exact HB.out | apply below_alloc | apply pw_below_drewN | apply below_drew1) | exact HB.out)) hb); clear HO_5; clear HO_6; clear HB; have HO_5 := n0_; have HO_6 := n1_; have HO394 := n2_; have HB := n3_; clear n0_ n1_ n2_ n3_; clear hb ho80))
                      go_ret
                      exact ⟨_, by first | rfl | (simp [errW_none, errW_some] <;> rfl) | (simp [*, errW_none, errW_some] <;> rfl), by (with_reducible repeat (first | apply Kd.R_alloc | apply Kd.R_drewN | apply Kd.R_drew)); exact Kd.R_mono HO394.out (fun _ hk => trivial), by repeat (first | (with_reducible first | exact HB.out | apply below_alloc | apply pw_below_drewN | apply below_drew1) | exact HB.out)⟩
             ·rw [if_neg c47] at H
              have c47b0 : ((Int.tmod a0 2) == 1) = false := beq_eq_false_iff_ne.mpr c47
              have c47b1 : ((Int.tmod a0 2) != 1) = true := bne_iff_ne.mpr c47
              by_cases c81 : a0 = 223
              ·rw [if_pos c81] at H
               have c81b0 : (a0 == 223) = true := beq_iff_eq.mpr c81
               have c81b1 : (a0 != 223) = false := bne_eq_false_iff_eq.mpr c81
               clear c81
               obtain ⟨y395, hy395⟩ : ∃ y_ : List Int, y_ = (([115, 115] : List Int)) := ⟨_, rfl⟩
               replace H : (some y395) = some r := by first | (rw [hy395]; with_reducible exact H) | (have H2_ := (Option.bind_some _ _).symm.trans H; rw [hy395]; with_reducible exact H2_) | (have H2_ := (Option.bind_some _ _).symm.trans H; with_reducible exact H2_) | with_reducible exact H | (rw [hy395]; exact H) | exact H
               have Ny395 := Aside0.mk hy395
               clear hy395
               obtain rfl := Option.some.inj H
               go_enter Tryd.func26, Tryd.ntmps26
               go_wp2_with (first | ((with_reducible refine gate_callee (f := 31) rfl ?_); refine goesL_ (some 16) rfl rfl Tryd.func31 (by kernel_rfl) rfl #[.int .i32 a0, .int .i32 65, .int .i32 90] rfl (by (try simp only [List.map_toArray, List.map_cons, List.map_nil]); first | done | rfl | (simp only [List.length_drop, List.length_take]; rfl)) ?_; (with_reducible refine (tremaref02_in.calls a0 65 90 false _ A2.out).mono ?_); rintro e w' ⟨rfl, ⟨nd, rfl⟩⟩; refine ⟨_, rfl, ?_⟩) | (go_at_call 31; (with_reducible refine (tremaref02_in.calls a0 192 214 false _ A6.out).mono ?_); rintro e w' ⟨rfl, ⟨nd, rfl⟩⟩) | (go_at_call 31; (with_reducible refine (tremaref02_in.calls a0 216 222 false _ A10.out).mono ?_); rintro e w' ⟨rfl, ⟨nd, rfl⟩⟩) | (go_at_call 31; (with_reducible refine (tremaref02_in.calls a0 913 929 false _ A14.out).mono ?_); rintro e w' ⟨rfl, ⟨nd, rfl⟩⟩) | (go_at_call 31; (with_reducible refine (tremaref02_in.calls a0 931 937 false _ A18.out).mono ?_); rintro e w' ⟨rfl, ⟨nd, rfl⟩⟩) | (go_at_call 31; (with_reducible refine (tremaref02_in.calls a0 1040 1071 false _ A22.out).mono ?_); rintro e w' ⟨rfl, ⟨nd, rfl⟩⟩) | ((with_reducible refine gate_callee (f := 31) rfl ?_); refine goesL_ (some 42) rfl rfl Tryd.func31 (by kernel_rfl) rfl #[.int .i32 a0, .int .i32 1024, .int .i32 1039] rfl (by (try simp only [List.map_toArray, List.map_cons, List.map_nil]); first | done | rfl | (simp only [List.length_drop, List.length_take]; rfl)) ?_; (with_reducible refine (tremaref02_in.calls a0 1024 1039 false _ A26.out).mono ?_); rintro e w' ⟨rfl, ⟨nd, rfl⟩⟩; refine ⟨_, rfl, ?_⟩) | (go_at_call 31; (with_reducible refine (tremaref02_in.calls a0 256 302 false _ A31.out).mono ?_); rintro e w' ⟨rfl, ⟨nd, rfl⟩⟩) | (go_at_call 31; (with_reducible refine (tremaref02_in.calls a0 306 310 false _ A35.out).mono ?_); rintro e w' ⟨rfl, ⟨nd, rfl⟩⟩) | (go_at_call 31; (with_reducible refine (tremaref02_in.calls a0 330 374 false _ A39.out).mono ?_); rintro e w' ⟨rfl, ⟨nd, rfl⟩⟩) | (go_at_call 31; (with_reducible refine (tremaref02_in.calls a0 7680 7828 false _ A43.out).mono ?_); rintro e w' ⟨rfl, ⟨nd, rfl⟩⟩) | ((with_reducible refine gate_dst (N := 87) rfl ?_); refine Kd.R_lit (Kd.int .i32) _ 21 ?hg (N := 87) ?hd (xs := ([115, 115] : List Int)) (inner := [.int .i32 115, .int .i32 115]) (ok := fun _ => True) (okp := fun _ => True) ?hr ?hp (fun _ hk => hk) trivial (Below.refl _ _) (Nat.le_refl _) (by simp) ?_; (case hd => rfl); (case hg => rfl); (case hr => first | (go_simp; done) | (go_simp; rfl)); (case hp => exact (Reps.one (show Kd.M (Kd.int .i32) _ _ _ 115 [.int .i32 115] from rfl) (Reps.one (show Kd.M (Kd.int .i32) _ _ _ 115 [.int .i32 115] from rfl) (Reps.none _ _)))); intro v396 w82 ho83 hb hg_ hnew_; clear hg_ hnew_; (first | rw [← Ny395.out] at ho83 | (simp only [Int.reduceToNat] at ho83; rw [← Ny395.out] at ho83)); have n0_ := Aside0.mk (Kd.R_lower ho83 (below_size (by repeat (first | (with_reducible first | exact HB.out | apply below_alloc | apply pw_below_drewN | apply below_drew1) | exact HB.out)))); have n1_ := Aside0.mk (below_step (by repeat (first | (with_reducible first | exact HB.out | apply below_alloc | apply pw_below_drewN | apply below_drew1) | exact HB.out)) hb); clear HB; have HO397 := n0_; have HB := n1_; clear n0_ n1_; clear hb ho83))
               go_ret
               exact ⟨_, by first | rfl | (simp [errW_none, errW_some] <;> rfl) | (simp [*, errW_none, errW_some] <;> rfl), by (with_reducible repeat (first | apply Kd.R_alloc | apply Kd.R_drewN | apply Kd.R_drew)); exact HO397.out, by repeat (first | (with_reducible first | exact HB.out | apply below_alloc | apply pw_below_drewN | apply below_drew1) | exact HB.out)⟩
              ·rw [if_neg c81] at H
               have c81b0 : (a0 == 223) = false := beq_eq_false_iff_ne.mpr c81
               have c81b1 : (a0 != 223) = true := bne_iff_ne.mpr c81
               by_cases c84 : a0 = 7838
               ·rw [if_pos c84] at H
                have c84b0 : (a0 == 7838) = true := beq_iff_eq.mpr c84
                have c84b1 : (a0 != 7838) = false := bne_eq_false_iff_eq.mpr c84
                clear c84
                obtain ⟨y398, hy398⟩ : ∃ y_ : List Int, y_ = (([115, 115] : List Int)) := ⟨_, rfl⟩
                replace H : (some y398) = some r := by first | (rw [hy398]; with_reducible exact H) | (have H2_ := (Option.bind_some _ _).symm.trans H; rw [hy398]; with_reducible exact H2_) | (have H2_ := (Option.bind_some _ _).symm.trans H; with_reducible exact H2_) | with_reducible exact H | (rw [hy398]; exact H) | exact H
                have Ny398 := Aside0.mk hy398
                clear hy398
                obtain rfl := Option.some.inj H
                go_enter Tryd.func26, Tryd.ntmps26
                go_wp2_with (first | ((with_reducible refine gate_callee (f := 31) rfl ?_); refine goesL_ (some 16) rfl rfl Tryd.func31 (by kernel_rfl) rfl #[.int .i32 a0, .int .i32 65, .int .i32 90] rfl (by (try simp only [List.map_toArray, List.map_cons, List.map_nil]); first | done | rfl | (simp only [List.length_drop, List.length_take]; rfl)) ?_; (with_reducible refine (tremaref02_in.calls a0 65 90 false _ A2.out).mono ?_); rintro e w' ⟨rfl, ⟨nd, rfl⟩⟩; refine ⟨_, rfl, ?_⟩) | (go_at_call 31; (with_reducible refine (tremaref02_in.calls a0 192 214 false _ A6.out).mono ?_); rintro e w' ⟨rfl, ⟨nd, rfl⟩⟩) | (go_at_call 31; (with_reducible refine (tremaref02_in.calls a0 216 222 false _ A10.out).mono ?_); rintro e w' ⟨rfl, ⟨nd, rfl⟩⟩) | (go_at_call 31; (with_reducible refine (tremaref02_in.calls a0 913 929 false _ A14.out).mono ?_); rintro e w' ⟨rfl, ⟨nd, rfl⟩⟩) | (go_at_call 31; (with_reducible refine (tremaref02_in.calls a0 931 937 false _ A18.out).mono ?_); rintro e w' ⟨rfl, ⟨nd, rfl⟩⟩) | (go_at_call 31; (with_reducible refine (tremaref02_in.calls a0 1040 1071 false _ A22.out).mono ?_); rintro e w' ⟨rfl, ⟨nd, rfl⟩⟩) | ((with_reducible refine gate_callee (f := 31) rfl ?_); refine goesL_ (some 42) rfl rfl Tryd.func31 (by kernel_rfl) rfl #[.int .i32 a0, .int .i32 1024, .int .i32 1039] rfl (by (try simp only [List.map_toArray, List.map_cons, List.map_nil]); first | done | rfl | (simp only [List.length_drop, List.length_take]; rfl)) ?_; (with_reducible refine (tremaref02_in.calls a0 1024 1039 false _ A26.out).mono ?_); rintro e w' ⟨rfl, ⟨nd, rfl⟩⟩; refine ⟨_, rfl, ?_⟩) | (go_at_call 31; (with_reducible refine (tremaref02_in.calls a0 256 302 false _ A31.out).mono ?_); rintro e w' ⟨rfl, ⟨nd, rfl⟩⟩) | (go_at_call 31; (with_reducible refine (tremaref02_in.calls a0 306 310 false _ A35.out).mono ?_); rintro e w' ⟨rfl, ⟨nd, rfl⟩⟩) | (go_at_call 31; (with_reducible refine (tremaref02_in.calls a0 330 374 false _ A39.out).mono ?_); rintro e w' ⟨rfl, ⟨nd, rfl⟩⟩) | (go_at_call 31; (with_reducible refine (tremaref02_in.calls a0 7680 7828 false _ A43.out).mono ?_); rintro e w' ⟨rfl, ⟨nd, rfl⟩⟩) | ((with_reducible refine gate_dst (N := 87) rfl ?_); refine Kd.R_lit (Kd.int .i32) _ 21 ?hg (N := 87) ?hd (xs := ([115, 115] : List Int)) (inner := [.int .i32 115, .int .i32 115]) (ok := fun _ => True) (okp := fun _ => True) ?hr ?hp (fun _ hk => hk) trivial (Below.refl _ _) (Nat.le_refl _) (by simp) ?_; (case hd => rfl); (case hg => rfl); (case hr => first | (go_simp; done) | (go_simp; rfl)); (case hp => exact (Reps.one (show Kd.M (Kd.int .i32) _ _ _ 115 [.int .i32 115] from rfl) (Reps.one (show Kd.M (Kd.int .i32) _ _ _ 115 [.int .i32 115] from rfl) (Reps.none _ _)))); intro v399 w85 ho86 hb hg_ hnew_; clear hg_ hnew_; (first | rw [← Ny398.out] at ho86 | (simp only [Int.reduceToNat] at ho86; rw [← Ny398.out] at ho86)); have n0_ := Aside0.mk (Kd.R_lower ho86 (below_size (by repeat (first | (with_reducible first | exact HB.out | apply below_alloc | apply pw_below_drewN | apply below_drew1) | exact HB.out)))); have n1_ := Aside0.mk (below_step (by repeat (first | (with_reducible first | exact HB.out | apply below_alloc | apply pw_below_drewN | apply below_drew1) | exact HB.out)) hb); clear HB; have HO400 := n0_; have HB := n1_; clear n0_ n1_; clear hb ho86))
                go_ret
                exact ⟨_, by first | rfl | (simp [errW_none, errW_some] <;> rfl) | (simp [*, errW_none, errW_some] <;> rfl), by (with_reducible repeat (first | apply Kd.R_alloc | apply Kd.R_drewN | apply Kd.R_drew)); exact HO400.out, by repeat (first | (with_reducible first | exact HB.out | apply below_alloc | apply pw_below_drewN | apply below_drew1) | exact HB.out)⟩
               ·rw [if_neg c84] at H
                have c84b0 : (a0 == 7838) = false := beq_eq_false_iff_ne.mpr c84
                have c84b1 : (a0 != 7838) = true := bne_iff_ne.mpr c84
                by_cases c87 : a0 = 304
                ·rw [if_pos c87] at H
                 have c87b0 : (a0 == 304) = true := beq_iff_eq.mpr c87
                 have c87b1 : (a0 != 304) = false := bne_eq_false_iff_eq.mpr c87
                 clear c87
                 obtain ⟨y401, hy401⟩ : ∃ y_ : List Int, y_ = (([105, 775] : List Int)) := ⟨_, rfl⟩
                 replace H : (some y401) = some r := by first | (rw [hy401]; with_reducible exact H) | (have H2_ := (Option.bind_some _ _).symm.trans H; rw [hy401]; with_reducible exact H2_) | (have H2_ := (Option.bind_some _ _).symm.trans H; with_reducible exact H2_) | with_reducible exact H | (rw [hy401]; exact H) | exact H
                 have Ny401 := Aside0.mk hy401
                 clear hy401
                 obtain rfl := Option.some.inj H
                 go_enter Tryd.func26, Tryd.ntmps26
                 go_wp2_with (first | ((with_reducible refine gate_callee (f := 31) rfl ?_); refine goesL_ (some 16) rfl rfl Tryd.func31 (by kernel_rfl) rfl #[.int .i32 a0, .int .i32 65, .int .i32 90] rfl (by (try simp only [List.map_toArray, List.map_cons, List.map_nil]); first | done | rfl | (simp only [List.length_drop, List.length_take]; rfl)) ?_; (with_reducible refine (tremaref02_in.calls a0 65 90 false _ A2.out).mono ?_); rintro e w' ⟨rfl, ⟨nd, rfl⟩⟩; refine ⟨_, rfl, ?_⟩) | (go_at_call 31; (with_reducible refine (tremaref02_in.calls a0 192 214 false _ A6.out).mono ?_); rintro e w' ⟨rfl, ⟨nd, rfl⟩⟩) | (go_at_call 31; (with_reducible refine (tremaref02_in.calls a0 216 222 false _ A10.out).mono ?_); rintro e w' ⟨rfl, ⟨nd, rfl⟩⟩) | (go_at_call 31; (with_reducible refine (tremaref02_in.calls a0 913 929 false _ A14.out).mono ?_); rintro e w' ⟨rfl, ⟨nd, rfl⟩⟩) | (go_at_call 31; (with_reducible refine (tremaref02_in.calls a0 931 937 false _ A18.out).mono ?_); rintro e w' ⟨rfl, ⟨nd, rfl⟩⟩) | (go_at_call 31; (with_reducible refine (tremaref02_in.calls a0 1040 1071 false _ A22.out).mono ?_); rintro e w' ⟨rfl, ⟨nd, rfl⟩⟩) | ((with_reducible refine gate_callee (f := 31) rfl ?_); refine goesL_ (some 42) rfl rfl Tryd.func31 (by kernel_rfl) rfl #[.int .i32 a0, .int .i32 1024, .int .i32 1039] rfl (by (try simp only [List.map_toArray, List.map_cons, List.map_nil]); first | done | rfl | (simp only [List.length_drop, List.length_take]; rfl)) ?_; (with_reducible refine (tremaref02_in.calls a0 1024 1039 false _ A26.out).mono ?_); rintro e w' ⟨rfl, ⟨nd, rfl⟩⟩; refine ⟨_, rfl, ?_⟩) | (go_at_call 31; (with_reducible refine (tremaref02_in.calls a0 256 302 false _ A31.out).mono ?_); rintro e w' ⟨rfl, ⟨nd, rfl⟩⟩) | (go_at_call 31; (with_reducible refine (tremaref02_in.calls a0 306 310 false _ A35.out).mono ?_); rintro e w' ⟨rfl, ⟨nd, rfl⟩⟩) | (go_at_call 31; (with_reducible refine (tremaref02_in.calls a0 330 374 false _ A39.out).mono ?_); rintro e w' ⟨rfl, ⟨nd, rfl⟩⟩) | (go_at_call 31; (with_reducible refine (tremaref02_in.calls a0 7680 7828 false _ A43.out).mono ?_); rintro e w' ⟨rfl, ⟨nd, rfl⟩⟩) | ((with_reducible refine gate_dst (N := 91) rfl ?_); refine Kd.R_lit (Kd.int .i32) _ 21 ?hg (N := 91) ?hd (xs := ([105, 775] : List Int)) (inner := [.int .i32 105, .int .i32 775]) (ok := fun _ => True) (okp := fun _ => True) ?hr ?hp (fun _ hk => hk) trivial (Below.refl _ _) (Nat.le_refl _) (by simp) ?_; (case hd => rfl); (case hg => rfl); (case hr => first | (go_simp; done) | (go_simp; rfl)); (case hp => exact (Reps.one (show Kd.M (Kd.int .i32) _ _ _ 105 [.int .i32 105] from rfl) (Reps.one (show Kd.M (Kd.int .i32) _ _ _ 775 [.int .i32 775] from rfl) (Reps.none _ _)))); intro v402 w88 ho89 hb hg_ hnew_; clear hg_ hnew_; (first | rw [← Ny401.out] at ho89 | (simp only [Int.reduceToNat] at ho89; rw [← Ny401.out] at ho89)); have n0_ := Aside0.mk (Kd.R_lower ho89 (below_size (by repeat (first | (with_reducible first | exact HB.out | apply below_alloc | apply pw_below_drewN | apply below_drew1) | exact HB.out)))); have n1_ := Aside0.mk (below_step (by repeat (first | (with_reducible first | exact HB.out | apply below_alloc | apply pw_below_drewN | apply below_drew1) | exact HB.out)) hb); clear HB; have HO403 := n0_; have HB := n1_; clear n0_ n1_; clear hb ho89))
                 go_ret
                 exact ⟨_, by first | rfl | (simp [errW_none, errW_some] <;> rfl) | (simp [*, errW_none, errW_some] <;> rfl), by (with_reducible repeat (first | apply Kd.R_alloc | apply Kd.R_drewN | apply Kd.R_drew)); exact HO403.out, by repeat (first | (with_reducible first | exact HB.out | apply below_alloc | apply pw_below_drewN | apply below_drew1) | exact HB.out)⟩
                ·rw [if_neg c87] at H
                 have c87b0 : (a0 == 304) = false := beq_eq_false_iff_ne.mpr c87
                 have c87b1 : (a0 != 304) = true := bne_iff_ne.mpr c87
                 obtain ⟨y404, hy404⟩ : ∃ y_ : List Int, y_ = (([181, 376, 383, 837, 902, 962, 8486, 8490, 8491] : List Int)) := ⟨_, rfl⟩
                 replace H : (tremaref02_Fold.l0 k a0 y404 (([956, 255, 115, 953, 940, 963, 969, 107, 229] : List Int)) 0) = some r := by first | (rw [hy404]; with_reducible exact H) | (have H2_ := (Option.bind_some _ _).symm.trans H; rw [hy404]; with_reducible exact H2_) | (have H2_ := (Option.bind_some _ _).symm.trans H; with_reducible exact H2_) | with_reducible exact H | (rw [hy404]; exact H) | exact H
                 have Ny404 := Aside0.mk hy404
                 clear hy404
                 obtain ⟨y407, hy407⟩ : ∃ y_ : List Int, y_ = (([956, 255, 115, 953, 940, 963, 969, 107, 229] : List Int)) := ⟨_, rfl⟩
                 replace H : (tremaref02_Fold.l0 k a0 y404 y407 0) = some r := by first | (rw [hy407]; with_reducible exact H) | (have H2_ := (Option.bind_some _ _).symm.trans H; rw [hy407]; with_reducible exact H2_) | (have H2_ := (Option.bind_some _ _).symm.trans H; with_reducible exact H2_) | with_reducible exact H | (rw [hy407]; exact H) | exact H
                 have Ny407 := Aside0.mk hy407
                 clear hy407
                 have H' := Aside0.mk H
                 clear H
                 go_enter Tryd.func26, Tryd.ntmps26
                 go_wp2_with (first | ((with_reducible refine gate_callee (f := 31) rfl ?_); refine goesL_ (some 16) rfl rfl Tryd.func31 (by kernel_rfl) rfl #[.int .i32 a0, .int .i32 65, .int .i32 90] rfl (by (try simp only [List.map_toArray, List.map_cons, List.map_nil]); first | done | rfl | (simp only [List.length_drop, List.length_take]; rfl)) ?_; (with_reducible refine (tremaref02_in.calls a0 65 90 false _ A2.out).mono ?_); rintro e w' ⟨rfl, ⟨nd, rfl⟩⟩; refine ⟨_, rfl, ?_⟩) | (go_at_call 31; (with_reducible refine (tremaref02_in.calls a0 192 214 false _ A6.out).mono ?_); rintro e w' ⟨rfl, ⟨nd, rfl⟩⟩) | (go_at_call 31; (with_reducible refine (tremaref02_in.calls a0 216 222 false _ A10.out).mono ?_); rintro e w' ⟨rfl, ⟨nd, rfl⟩⟩) | (go_at_call 31; (with_reducible refine (tremaref02_in.calls a0 913 929 false _ A14.out).mono ?_); rintro e w' ⟨rfl, ⟨nd, rfl⟩⟩) | (go_at_call 31; (with_reducible refine (tremaref02_in.calls a0 931 937 false _ A18.out).mono ?_); rintro e w' ⟨rfl, ⟨nd, rfl⟩⟩) | (go_at_call 31; (with_reducible refine (tremaref02_in.calls a0 1040 1071 false _ A22.out).mono ?_); rintro e w' ⟨rfl, ⟨nd, rfl⟩⟩) | ((with_reducible refine gate_callee (f := 31) rfl ?_); refine goesL_ (some 42) rfl rfl Tryd.func31 (by kernel_rfl) rfl #[.int .i32 a0, .int .i32 1024, .int .i32 1039] rfl (by (try simp only [List.map_toArray, List.map_cons, List.map_nil]); first | done | rfl | (simp only [List.length_drop, List.length_take]; rfl)) ?_; (with_reducible refine (tremaref02_in.calls a0 1024 1039 false _ A26.out).mono ?_); rintro e w' ⟨rfl, ⟨nd, rfl⟩⟩; refine ⟨_, rfl, ?_⟩) | (go_at_call 31; (with_reducible refine (tremaref02_in.calls a0 256 302 false _ A31.out).mono ?_); rintro e w' ⟨rfl, ⟨nd, rfl⟩⟩) | (go_at_call 31; (with_reducible refine (tremaref02_in.calls a0 306 310 false _ A35.out).mono ?_); rintro e w' ⟨rfl, ⟨nd, rfl⟩⟩) | (go_at_call 31; (with_reducible refine (tremaref02_in.calls a0 330 374 false _ A39.out).mono ?_); rintro e w' ⟨rfl, ⟨nd, rfl⟩⟩) | (go_at_call 31; (with_reducible refine (tremaref02_in.calls a0 7680 7828 false _ A43.out).mono ?_); rintro e w' ⟨rfl, ⟨nd, rfl⟩⟩) | ((with_reducible refine gate_dst (N := 92) rfl ?_); refine Kd.R_lit (Kd.int .i32) _ 21 ?hg (N := 92) ?hd (xs := ([181, 376, 383, 837, 902, 962, 8486, 8490, 8491] : List Int)) (inner := [.int .i32 181, .int .i32 376, .int .i32 383, .int .i32 837, .int .i32 902, .int .i32 962, .int .i32 8486, .int .i32 8490, .int .i32 8491]) (ok := fun _ => True) (okp := fun _ => True) ?hr ?hp (fun _ hk => hk) trivial (Below.refl _ _) (Nat.le_refl _) (by simp) ?_; (case hd => rfl); (case hg => rfl); (case hr => first | (go_simp; done) | (go_simp; rfl)); (case hp => exact (Reps.one (show Kd.M (Kd.int .i32) _ _ _ 181 [.int .i32 181] from rfl) (Reps.one (show Kd.M (Kd.int .i32) _ _ _ 376 [.int .i32 376] from rfl) (Reps.one (show Kd.M (Kd.int .i32) _ _ _ 383 [.int .i32 383] from rfl) (Reps.one (show Kd.M (Kd.int .i32) _ _ _ 837 [.int .i32 837] from rfl) (Reps.one (show Kd.M (Kd.int .i32) _ _ _ 902 [.int .i32 902] from rfl) (Reps.one (show Kd.M (Kd.int .i32) _ _ _ 962 [.int .i32 962] from rfl) (Reps.one (show Kd.M (Kd.int .i32) _ _ _ 8486 [.int .i32 8486] from rfl) (Reps.one (show Kd.M (Kd.int .i32) _ _ _ 8490 [.int .i32 8490] from rfl) (Reps.one (show Kd.M (Kd.int .i32) _ _ _ 8491 [.int .i32 8491] from rfl) (Reps.none _ _))))))))))); intro v405 w90 ho91 hb hg_ hnew_; clear hg_ hnew_; (first | rw [← Ny404.out] at ho91 | (simp only [Int.reduceToNat] at ho91; rw [← Ny404.out] at ho91)); have n0_ := Aside0.mk (Kd.R_lower ho91 (below_size (by repeat (first | (with_reducible first | exact HB.out | apply below_alloc | apply pw_below_drewN | apply below_drew1) | exact HB.out)))); have n1_ := Aside0.mk (below_step (by repeat (first | (with_reducible first | exact HB.out | apply below_alloc | apply pw_below_drewN | apply below_drew1) | exact HB.out)) hb); clear HB; have HO406 := n0_; have HB := n1_; clear n0_ n1_; clear hb ho91) | ((with_reducible refine gate_dst (N := 93) rfl ?_); refine Kd.R_lit (Kd.int .i32) _ 21 ?hg (N := 93) ?hd (xs := ([956, 255, 115, 953, 940, 963, 969, 107, 229] : List Int)) (inner := [.int .i32 956, .int .i32 255, .int .i32 115, .int .i32 953, .int .i32 940, .int .i32 963, .int .i32 969, .int .i32 107, .int .i32 229]) (ok := fun _ => True) (okp := fun _ => True) ?hr ?hp (fun _ hk => hk) trivial (Below.refl _ _) (Nat.le_refl _) (by simp) ?_; (case hd => rfl); (case hg => rfl); (case hr => first | (go_simp; done) | (go_simp; rfl)); (case hp => exact (Reps.one (show Kd.M (Kd.int .i32) _ _ _ 956 [.int .i32 956] from rfl) (Reps.one (show Kd.M (Kd.int .i32) _ _ _ 255 [.int .i32 255] from rfl) (Reps.one (show Kd.M (Kd.int .i32) _ _ _ 115 [.int .i32 115] from rfl) (Reps.one (show Kd.M (Kd.int .i32) _ _ _ 953 [.int .i32 953] from rfl) (Reps.one (show Kd.M (Kd.int .i32) _ _ _ 940 [.int .i32 940] from rfl) (Reps.one (show Kd.M (Kd.int .i32) _ _ _ 963 [.int .i32 963] from rfl) (Reps.one (show Kd.M (Kd.int .i32) _ _ _ 969 [.int .i32 969] from rfl) (Reps.one (show Kd.M (Kd.int .i32) _ _ _ 107 [.int .i32 107] from rfl) (Reps.one (show Kd.M (Kd.int .i32) _ _ _ 229 [.int .i32 229] from rfl) (Reps.none _ _))))))))))); intro v408 w92 ho93 hb hg_ hnew_; clear hg_ hnew_; (first | rw [← Ny407.out] at ho93 | (simp only [Int.reduceToNat] at ho93; rw [← Ny407.out] at ho93)); have n0_ := Aside0.mk (Kd.R_elder' (by (with_reducible repeat (first | apply Kd.R_alloc | apply Kd.R_drewN | apply Kd.R_drew)); exact HO406.out) (Kd.R_base ho93) hb); have n1_ := Aside0.mk (Kd.R_lower (Kd.R_new' ho93 (Kd.R_lt (by (with_reducible repeat (first | apply Kd.R_alloc | apply Kd.R_drewN | apply Kd.R_drew)); exact HO406.out))) (below_size (by repeat (first | (with_reducible first | exact HB.out | apply below_alloc | apply pw_below_drewN | apply below_drew1) | exact HB.out)))); have n2_ := Aside0.mk (below_step (by repeat (first | (with_reducible first | exact HB.out | apply below_alloc | apply pw_below_drewN | apply below_drew1) | exact HB.out)) hb); clear HO406; clear HB; have HO406 := n0_; have HO409 := n1_; have HB := n2_; clear n0_ n1_ n2_; clear hb ho93))
                 go_loopg [7] k (fun kq v7 w' => ∃ (x7_1 : Int), v7 = .int .i64 x7_1 ∧ Aside0 (tremaref02_Fold.l0 kq a0 y404 y407 x7_1 = some r) ∧ Aside0 (kq ≤ k) ∧ Aside0 (Kd.R (Kd.int .i32) 21 w' w.heap.size (fun k_ => some k_ ≠ (v408 : Value).ownBlock) v405 y404) ∧ Aside0 (Kd.R (Kd.int .i32) 21 w' w.heap.size (fun k_ => some k_ ≠ (v405 : Value).ownBlock) v408 y407) ∧ Aside0 (Below w.heap.size w w'))
                 case atStart => exact ⟨(0), (by first | rfl | (simp; done) | (simp [*]; done)), H', ⟨Nat.le_refl _⟩, ⟨by (with_reducible repeat (first | apply Kd.R_alloc | apply Kd.R_drewN | apply Kd.R_drew)); exact Kd.R_mono HO406.out (fun _ hk => hk.2)⟩, ⟨by (with_reducible repeat (first | apply Kd.R_alloc | apply Kd.R_drewN | apply Kd.R_drew)); exact Kd.R_mono HO409.out (fun _ hk => hk.2)⟩, ⟨by repeat (first | (with_reducible first | exact HB.out | apply below_alloc | apply pw_below_drewN | apply below_drew1) | exact HB.out)⟩⟩
                 case round =>
                  clear H'
                  try clear c1
                  try clear c2
                  try clear p2
                  try clear c3
                  try clear p3
                  try clear q3
                  try clear hx3
                  try clear c4
                  try clear c5
                  try clear c6
                  try clear p6
                  try clear c7
                  try clear c8
                  try clear c11
                  try clear c15
                  try clear c19
                  try clear c23
                  try clear c26
                  try clear c27
                  try clear c30
                  try clear c30b0
                  try clear c30b1
                  try clear c31
                  try clear c32
                  try clear p32
                  try clear c36
                  try clear p38
                  try clear q38
                  try clear hx38
                  try clear c40
                  try clear c44
                  try clear c47
                  try clear c47b0
                  try clear c47b1
                  try clear c49
                  try clear c53
                  try clear c56
                  try clear c56b0
                  try clear c56b1
                  try clear c59
                  try clear c59b0
                  try clear c59b1
                  try clear c62
                  try clear c62b0
                  try clear c62b1
                  try clear p64
                  try clear c69
                  try clear c69b0
                  try clear c70
                  try clear c70b0
                  try clear c71
                  try clear c71b0
                  try clear c71b1
                  try clear c72
                  try clear c72b0
                  try clear c81
                  try clear c81b0
                  try clear c81b1
                  try clear c84
                  try clear c84b0
                  try clear c84b1
                  try clear c87
                  try clear c87b0
                  try clear c87b1
                  try clear hx387_0
                  try clear hx388_0
                  try clear p2
                  try clear p3
                  try clear p32
                  try clear p387
                  try clear p388
                  try clear q387
                  try clear q388
                  obtain ⟨x7_1, rfl, HA, HK1, HO_5, HO_6, HB⟩ := hrel
                  cases gk with
                  | zero => exact absurd HA.out (by simp [tremaref02_Fold.l0])
                  | succ k1 =>
                   have H := HA.out
                   clear HA
                   simp only [tremaref02_Fold.l0] at H
                   by_cases c94 : x7_1 < (y404.length : Int)
                   ·rw [if_pos c94] at H
                    have c94b0 : decide (x7_1 < (y404.length : Int)) = true := decide_eq_true c94
                    clear c94
                    by_cases c95 : 0 ≤ x7_1
                    ·rw [if_pos c95] at H
                     have c95b0 : decide (0 ≤ x7_1) = true := decide_eq_true c95
                     clear c95
                     by_cases c96 : a0 = (rd y404 x7_1)
                     ·rw [if_pos c96] at H
                      have c96b0 : (a0 == (rd y404 x7_1)) = true := beq_iff_eq.mpr c96
                      have c96b1 : (a0 != (rd y404 x7_1)) = false := bne_eq_false_iff_eq.mpr c96
                      clear c96
                      by_cases c97 : x7_1 < (y407.length : Int)
                      ·rw [if_pos c97] at H
                       have c97b0 : decide (x7_1 < (y407.length : Int)) = true := decide_eq_true c97
                       clear c97
                       obtain ⟨y389, hy389⟩ : ∃ y_ : List Int, y_ = (([rd y407 x7_1] : List Int)) := ⟨_, rfl⟩
                       replace H : (some y389) = some r := by first | (rw [hy389]; with_reducible exact H) | (have H2_ := (Option.bind_some _ _).symm.trans H; rw [hy389]; with_reducible exact H2_) | (have H2_ := (Option.bind_some _ _).symm.trans H; with_reducible exact H2_) | with_reducible exact H | (rw [hy389]; exact H) | exact H
                       have Ny389 := Aside0.mk hy389
                       clear hy389
                       obtain rfl := Option.some.inj H
                       obtain ⟨Ao98, co98, eo98⟩ := Kd.R_slice HO_5.out
                       subst eo98
                       have p387 : 0 ≤ (x7_1 : Int) := of_decide_eq_true (by first | (with_reducible assumption) | assumption)
                       have q387 : x7_1 < (y404.length : Int) := of_decide_eq_true (by first | (with_reducible assumption) | assumption)
                       obtain ⟨ad387, e387, hx387_0⟩ := Kd.at_int (Kd.R_reads' HO_5.out).2.2 x7_1 p387 q387
                       cases e387
                       replace p387 := eq_true p387
                       replace q387 := eq_true q387
                       obtain ⟨Ao99, co99, eo99⟩ := Kd.R_slice HO_6.out
                       subst eo99
                       have p388 : 0 ≤ (x7_1 : Int) := of_decide_eq_true (by first | (with_reducible assumption) | assumption)
                       have q388 : x7_1 < (y407.length : Int) := of_decide_eq_true (by first | (with_reducible assumption) | assumption)
                       obtain ⟨ad388, e388, hx388_0⟩ := Kd.at_int (Kd.R_reads' HO_6.out).2.2 x7_1 p388 q388
                       cases e388
                       replace p388 := eq_true p388
                       replace q388 := eq_true q388
                       go_wp2_with (first | ((with_reducible refine gate_dst (N := 110) rfl ?_); refine Kd.R_lit (Kd.int .i32) _ 21 ?hg (N := 110) ?hd (xs := ([rd y407 x7_1] : List Int)) (inner := [.int .i32 (rd y407 x7_1)]) (ok := fun _ => True) (okp := fun _ => True) ?hr ?hp (fun _ hk => hk) trivial (Below.refl _ _) (Nat.le_refl _) (by simp) ?_; (case hd => rfl); (case hg => rfl); (case hr => first | (go_simp; done) | (go_simp; rfl)); (case hp => exact (Reps.one (show Kd.M (Kd.int .i32) _ _ _ (rd y407 x7_1) [.int .i32 (rd y407 x7_1)] from rfl) (Reps.none _ _))); intro v390 w100 ho101 hb hg_ hnew_; clear hg_ hnew_; (first | rw [← Ny389.out] at ho101 | (simp only [Int.reduceToNat] at ho101; rw [← Ny389.out] at ho101)); have n0_ := Aside0.mk (Kd.R_elder' (by (with_reducible repeat (first | apply Kd.R_alloc | apply Kd.R_drewN | apply Kd.R_drew)); exact HO_5.out) (Kd.R_base ho101) hb); have n1_ := Aside0.mk (Kd.R_elder' (by (with_reducible repeat (first | apply Kd.R_alloc | apply Kd.R_drewN | apply Kd.R_drew)); exact HO_6.out) (Kd.R_base ho101) hb); have n2_ := Aside0.mk (Kd.R_lower (Kd.R_new' (Kd.R_new' ho101 (Kd.R_lt (by (with_reducible repeat (first | apply Kd.R_alloc | apply Kd.R_drewN | apply Kd.R_drew)); exact HO_5.out))) (Kd.R_lt (by (with_reducible repeat (first | apply Kd.R_alloc | apply Kd.R_drewN | apply Kd.R_drew)); exact HO_6.out))) (below_size (by repeat (first | (with_reducible first | exact HB.out | apply below_alloc | apply pw_below_drewN | apply below_drew1) | exact HB.out)))); have n3_ := Aside0.mk (below_step (by repeat (first | (with_reducible first | exact HB.out | apply below_alloc | apply pw_below_drewN | apply below_drew1) | exact HB.out)) hb); clear HO_5; clear HO_6; clear HB; have HO_5 := n0_; have HO_6 := n1_; have HO391 := n2_; have HB := n3_; clear n0_ n1_ n2_ n3_; clear hb ho101))
                       go_ret
                       exact ⟨_, by first | rfl | (simp [errW_none, errW_some] <;> rfl) | (simp [*, errW_none, errW_some] <;> rfl), by (with_reducible repeat (first | apply Kd.R_alloc | apply Kd.R_drewN | apply Kd.R_drew)); exact Kd.R_mono HO391.out (fun _ hk => trivial), by repeat (first | (with_reducible first | exact HB.out | apply below_alloc | apply pw_below_drewN | apply below_drew1) | exact HB.out)⟩
                      ·rw [if_neg c97] at H
                       exact absurd H (by simp)
                     ·rw [if_neg c96] at H
                      have c96b0 : (a0 == (rd y404 x7_1)) = false := beq_eq_false_iff_ne.mpr c96
                      have c96b1 : (a0 != (rd y404 x7_1)) = true := bne_iff_ne.mpr c96
                      have H' := Aside0.mk H
                      clear H
                      obtain ⟨Ao102, co102, eo102⟩ := Kd.R_slice HO_5.out
                      subst eo102
                      have p387 : 0 ≤ (x7_1 : Int) := of_decide_eq_true (by first | (with_reducible assumption) | assumption)
                      have q387 : x7_1 < (y404.length : Int) := of_decide_eq_true (by first | (with_reducible assumption) | assumption)
                      obtain ⟨ad387, e387, hx387_0⟩ := Kd.at_int (Kd.R_reads' HO_5.out).2.2 x7_1 p387 q387
                      cases e387
                      replace p387 := eq_true p387
                      replace q387 := eq_true q387
                      go_wp2
                      go_roundg k1
                      case measure => have := HK1.out; omega
                      case rel => exact ⟨(wrap64 (x7_1 + 1)), (by first | rfl | (simp; done) | (simp [*]; done)), H', ⟨by have := HK1.out; omega⟩, ⟨by (with_reducible repeat (first | apply Kd.R_alloc | apply Kd.R_drewN | apply Kd.R_drew)); exact HO_5.out⟩, ⟨by (with_reducible repeat (first | apply Kd.R_alloc | apply Kd.R_drewN | apply Kd.R_drew)); exact HO_6.out⟩, ⟨by repeat (first | (with_reducible first | exact HB.out | apply below_alloc | apply pw_below_drewN | apply below_drew1) | exact HB.out)⟩⟩
                    ·rw [if_neg c95] at H
                     exact absurd H (by simp)
                   ·rw [if_neg c94] at H
                    have c94b0 : decide (x7_1 < (y404.length : Int)) = false := decide_eq_false c94
                    clear c94
                    obtain ⟨y392, hy392⟩ : ∃ y_ : List Int, y_ = (([a0] : List Int)) := ⟨_, rfl⟩
                    replace H : (some y392) = some r := by first | (rw [hy392]; with_reducible exact H) | (have H2_ := (Option.bind_some _ _).symm.trans H; rw [hy392]; with_reducible exact H2_) | (have H2_ := (Option.bind_some _ _).symm.trans H; with_reducible exact H2_) | with_reducible exact H | (rw [hy392]; exact H) | exact H
                    have Ny392 := Aside0.mk hy392
                    clear hy392
                    obtain rfl := Option.some.inj H
                    obtain ⟨Ao103, co103, eo103⟩ := Kd.R_slice HO_5.out
                    subst eo103
                    go_wp2_with (first | ((with_reducible refine gate_dst (N := 112) rfl ?_); refine Kd.R_lit (Kd.int .i32) _ 21 ?hg (N := 112) ?hd (xs := ([a0] : List Int)) (inner := [.int .i32 a0]) (ok := fun _ => True) (okp := fun _ => True) ?hr ?hp (fun _ hk => hk) trivial (Below.refl _ _) (Nat.le_refl _) (by simp) ?_; (case hd => rfl); (case hg => rfl); (case hr => first | (go_simp; done) | (go_simp; rfl)); (case hp => exact (Reps.one (show Kd.M (Kd.int .i32) _ _ _ a0 [.int .i32 a0] from rfl) (Reps.none _ _))); intro v393 w104 ho105 hb hg_ hnew_; clear hg_ hnew_; (first | rw [← Ny392.out] at ho105 | (simp only [Int.reduceToNat] at ho105; rw [← Ny392.out] at ho105)); have n0_ := Aside0.mk (Kd.R_elder' (by (with_reducible repeat (first | apply Kd.R_alloc | apply Kd.R_drewN | apply Kd.R_drew)); exact HO_5.out) (Kd.R_base ho105) hb); have n1_ := Aside0.mk (Kd.R_elder' (by (with_reducible repeat (first | apply Kd.R_alloc | apply Kd.R_drewN | apply Kd.R_drew)); exact HO_6.out) (Kd.R_base ho105) hb); have n2_ := Aside0.mk (Kd.R_lower (Kd.R_new' (Kd.R_new' ho105 (Kd.R_lt (by (with_reducible repeat (first | apply Kd.R_alloc | apply Kd.R_drewN | apply Kd.R_drew)); exact HO_5.out))) (Kd.R_lt (by (with_reducible repeat (first | apply Kd.R_alloc | apply Kd.R_drewN | apply Kd.R_drew)); exact HO_6.out))) (below_size (by repeat (first | (with_reducible first | exact HB.out | apply below_alloc | apply pw_below_drewN | apply below_drew1) | exact HB.out)))); have n3_ := Aside0.mk (below_step (by repeat (first | (with_reducible first | exact HB.out | apply below_alloc | apply pw_below_drewN | apply below_drew1) | exact HB.out)) hb); clear HO_5; clear HO_6; clear HB; have HO_5 := n0_; have HO_6 := n1_; have HO394 := n2_; have HB := n3_; clear n0_ n1_ n2_ n3_; clear hb ho105))
                    go_ret
                    exact ⟨_, by first | rfl | (simp [errW_none, errW_some] <;> rfl) | (simp [*, errW_none, errW_some] <;> rfl), by (with_reducible repeat (first | apply Kd.R_alloc | apply Kd.R_drewN | apply Kd.R_drew)); exact Kd.R_mono HO394.out (fun _ hk => trivial), by repeat (first | (with_reducible first | exact HB.out | apply below_alloc | apply pw_below_drewN | apply below_drew1) | exact HB.out)⟩
        ·rw [if_neg c30] at H
         have c30b0 : ((Int.tmod a0 2) == 0) = false := beq_eq_false_iff_ne.mpr c30
         have c30b1 : ((Int.tmod a0 2) != 0) = true := bne_iff_ne.mpr c30
         by_cases c106 : (Int.tmod a0 2) = 1
         ·rw [if_pos c106] at H
          have c106b0 : ((Int.tmod a0 2) == 1) = true := beq_iff_eq.mpr c106
          have c106b1 : ((Int.tmod a0 2) != 1) = false := bne_eq_false_iff_eq.mpr c106
          clear c106
          replace H := Option.bind_eq_some_iff.mp H
          obtain ⟨t410, A1070, H⟩ := H
          replace H : (if t410 = true then (some (([wrap32 (a0 + 1)] : List Int))) else ((tremaref02_in.f a0 377 381).bind fun t414 => (if t414 = true then (some (([wrap32 (a0 + 1)] : List Int))) else (if a0 = 223 then (some (([115, 115] : List Int))) else (if a0 = 7838 then (some (([115, 115] : List Int))) else (if a0 = 304 then (some (([105, 775] : List Int))) else (tremaref02_Fold.l0 k a0 (([181, 376, 383, 837, 902, 962, 8486, 8490, 8491] : List Int)) (([956, 255, 115, 953, 940, 963, 969, 107, 229] : List Int)) 0))))))) = some r := H
          have A107 := Aside0.mk A1070
          clear A1070
          by_cases c108 : t410 = true
          ·subst c108
           have H1 : (some (([wrap32 (a0 + 1)] : List Int))) = some r := by rw [if_pos rfl] at H; exact H
           clear H
           have H := H1
           clear H1
           obtain ⟨y411, hy411⟩ : ∃ y_ : List Int, y_ = (([wrap32 (a0 + 1)] : List Int)) := ⟨_, rfl⟩
           replace H : (some y411) = some r := by first | (rw [hy411]; with_reducible exact H) | (have H2_ := (Option.bind_some _ _).symm.trans H; rw [hy411]; with_reducible exact H2_) | (have H2_ := (Option.bind_some _ _).symm.trans H; with_reducible exact H2_) | with_reducible exact H | (rw [hy411]; exact H) | exact H
           have Ny411 := Aside0.mk hy411
           clear hy411
           obtain rfl := Option.some.inj H
           go_enter Tryd.func26, Tryd.ntmps26
           go_wp2_with (first | ((with_reducible refine gate_callee (f := 31) rfl ?_); refine goesL_ (some 16) rfl rfl Tryd.func31 (by kernel_rfl) rfl #[.int .i32 a0, .int .i32 65, .int .i32 90] rfl (by (try simp only [List.map_toArray, List.map_cons, List.map_nil]); first | done | rfl | (simp only [List.length_drop, List.length_take]; rfl)) ?_; (with_reducible refine (tremaref02_in.calls a0 65 90 false _ A2.out).mono ?_); rintro e w' ⟨rfl, ⟨nd, rfl⟩⟩; refine ⟨_, rfl, ?_⟩) | (go_at_call 31; (with_reducible refine (tremaref02_in.calls a0 192 214 false _ A6.out).mono ?_); rintro e w' ⟨rfl, ⟨nd, rfl⟩⟩) | (go_at_call 31; (with_reducible refine (tremaref02_in.calls a0 216 222 false _ A10.out).mono ?_); rintro e w' ⟨rfl, ⟨nd, rfl⟩⟩) | (go_at_call 31; (with_reducible refine (tremaref02_in.calls a0 913 929 false _ A14.out).mono ?_); rintro e w' ⟨rfl, ⟨nd, rfl⟩⟩) | (go_at_call 31; (with_reducible refine (tremaref02_in.calls a0 931 937 false _ A18.out).mono ?_); rintro e w' ⟨rfl, ⟨nd, rfl⟩⟩) | (go_at_call 31; (with_reducible refine (tremaref02_in.calls a0 1040 1071 false _ A22.out).mono ?_); rintro e w' ⟨rfl, ⟨nd, rfl⟩⟩) | ((with_reducible refine gate_callee (f := 31) rfl ?_); refine goesL_ (some 42) rfl rfl Tryd.func31 (by kernel_rfl) rfl #[.int .i32 a0, .int .i32 1024, .int .i32 1039] rfl (by (try simp only [List.map_toArray, List.map_cons, List.map_nil]); first | done | rfl | (simp only [List.length_drop, List.length_take]; rfl)) ?_; (with_reducible refine (tremaref02_in.calls a0 1024 1039 false _ A26.out).mono ?_); rintro e w' ⟨rfl, ⟨nd, rfl⟩⟩; refine ⟨_, rfl, ?_⟩) | (go_at_call 31; (with_reducible refine (tremaref02_in.calls a0 313 327 true _ A107.out).mono ?_); rintro e w' ⟨rfl, ⟨nd, rfl⟩⟩) | ((with_reducible refine gate_dst (N := 79) rfl ?_); refine Kd.R_lit (Kd.int .i32) _ 21 ?hg (N := 79) ?hd (xs := ([wrap32 (a0 + 1)] : List Int)) (inner := [.int .i32 (wrap32 (a0 + 1))]) (ok := fun _ => True) (okp := fun _ => True) ?hr ?hp (fun _ hk => hk) trivial (Below.refl _ _) (Nat.le_refl _) (by simp) ?_; (case hd => rfl); (case hg => rfl); (case hr => first | (go_simp; done) | (go_simp; rfl)); (case hp => exact (Reps.one (show Kd.M (Kd.int .i32) _ _ _ (wrap32 (a0 + 1)) [.int .i32 (wrap32 (a0 + 1))] from rfl) (Reps.none _ _))); intro v412 w109 ho110 hb hg_ hnew_; clear hg_ hnew_; (first | rw [← Ny411.out] at ho110 | (simp only [Int.reduceToNat] at ho110; rw [← Ny411.out] at ho110)); have n0_ := Aside0.mk (Kd.R_lower ho110 (below_size (by repeat (first | (with_reducible first | exact HB.out | apply below_alloc | apply pw_below_drewN | apply below_drew1) | exact HB.out)))); have n1_ := Aside0.mk (below_step (by repeat (first | (with_reducible first | exact HB.out | apply below_alloc | apply pw_below_drewN | apply below_drew1) | exact HB.out)) hb); clear HB; have HO413 := n0_; have HB := n1_; clear n0_ n1_; clear hb ho110))
           go_ret
           exact ⟨_, by first | rfl | (simp [errW_none, errW_some] <;> rfl) | (simp [*, errW_none, errW_some] <;> rfl), by (with_reducible repeat (first | apply Kd.R_alloc | apply Kd.R_drewN | apply Kd.R_drew)); exact HO413.out, by repeat (first | (with_reducible first | exact HB.out | apply below_alloc | apply pw_below_drewN | apply below_drew1) | exact HB.out)⟩
          ·replace c108 := Bool.eq_false_iff.mpr c108
           subst c108
           have H1 : ((tremaref02_in.f a0 377 381).bind fun t414 => (if t414 = true then (some (([wrap32 (a0 + 1)] : List Int))) else (if a0 = 223 then (some (([115, 115] : List Int))) else (if a0 = 7838 then (some (([115, 115] : List Int))) else (if a0 = 304 then (some (([105, 775] : List Int))) else (tremaref02_Fold.l0 k a0 (([181, 376, 383, 837, 902, 962, 8486, 8490, 8491] : List Int)) (([956, 255, 115, 953, 940, 963, 969, 107, 229] : List Int)) 0)))))) = some r := by rw [if_neg (show ¬ (false = true) by decide)] at H; exact H
           clear H
           have H := H1
           clear H1
           replace H := Option.bind_eq_some_iff.mp H
           obtain ⟨t414, A1110, H⟩ := H
           replace H : (if t414 = true then (some (([wrap32 (a0 + 1)] : List Int))) else (if a0 = 223 then (some (([115, 115] : List Int))) else (if a0 = 7838 then (some (([115, 115] : List Int))) else (if a0 = 304 then (some (([105, 775] : List Int))) else (tremaref02_Fold.l0 k a0 (([181, 376, 383, 837, 902, 962, 8486, 8490, 8491] : List Int)) (([956, 255, 115, 953, 940, 963, 969, 107, 229] : List Int)) 0))))) = some r := H
           have A111 := Aside0.mk A1110
           clear A1110
           by_cases c112 : t414 = true
           ·subst c112
            have H1 : (some (([wrap32 (a0 + 1)] : List Int))) = some r := by rw [if_pos rfl] at H; exact H
            clear H
            have H := H1
            clear H1
            obtain ⟨y415, hy415⟩ : ∃ y_ : List Int, y_ = (([wrap32 (a0 + 1)] : List Int)) := ⟨_, rfl⟩
            replace H : (some y415) = some r := by first | (rw [hy415]; with_reducible exact H) | (have H2_ := (Option.bind_some _ _).symm.trans H; rw [hy415]; with_reducible exact H2_) | (have H2_ := (Option.bind_some _ _).symm.trans H; with_reducible exact H2_) | with_reducible exact H | (rw [hy415]; exact H) | exact H
            have Ny415 := Aside0.mk hy415
            clear hy415
            obtain rfl := Option.some.inj H
            go_enter Tryd.func26, Tryd.ntmps26
            go_wp2_with (first | ((with_reducible refine gate_callee (f := 31) rfl ?_); refine goesL_ (some 16) rfl rfl Tryd.func31 (by kernel_rfl) rfl #[.int .i32 a0, .int .i32 65, .int .i32 90] rfl (by (try simp only [List.map_toArray, List.map_cons, List.map_nil]); first | done | rfl | (simp only [List.length_drop, List.length_take]; rfl)) ?_; (with_reducible refine (tremaref02_in.calls a0 65 90 false _ A2.out).mono ?_); rintro e w' ⟨rfl, ⟨nd, rfl⟩⟩; refine ⟨_, rfl, ?_⟩) | (go_at_call 31; (with_reducible refine (tremaref02_in.calls a0 192 214 false _ A6.out).mono ?_); rintro e w' ⟨rfl, ⟨nd, rfl⟩⟩) | (go_at_call 31; (with_reducible refine (tremaref02_in.calls a0 216 222 false _ A10.out).mono ?_); rintro e w' ⟨rfl, ⟨nd, rfl⟩⟩) | (go_at_call 31; (with_reducible refine (tremaref02_in.calls a0 913 929 false _ A14.out).mono ?_); rintro e w' ⟨rfl, ⟨nd, rfl⟩⟩) | (go_at_call 31; (with_reducible refine (tremaref02_in.calls a0 931 937 false _ A18.out).mono ?_); rintro e w' ⟨rfl, ⟨nd, rfl⟩⟩) | (go_at_call 31; (with_reducible refine (tremaref02_in.calls a0 1040 1071 false _ A22.out).mono ?_); rintro e w' ⟨rfl, ⟨nd, rfl⟩⟩) | ((with_reducible refine gate_callee (f := 31) rfl ?_); refine goesL_ (some 42) rfl rfl Tryd.func31 (by kernel_rfl) rfl #[.int .i32 a0, .int .i32 1024, .int .i32 1039] rfl (by (try simp only [List.map_toArray, List.map_cons, List.map_nil]); first | done | rfl | (simp only [List.length_drop, List.length_take]; rfl)) ?_; (with_reducible refine (tremaref02_in.calls a0 1024 1039 false _ A26.out).mono ?_); rintro e w' ⟨rfl, ⟨nd, rfl⟩⟩; refine ⟨_, rfl, ?_⟩) | (go_at_call 31; (with_reducible refine (tremaref02_in.calls a0 313 327 false _ A107.out).mono ?_); rintro e w' ⟨rfl, ⟨nd, rfl⟩⟩) | (go_at_call 31; (with_reducible refine (tremaref02_in.calls a0 377 381 true _ A111.out).mono ?_); rintro e w' ⟨rfl, ⟨nd, rfl⟩⟩) | ((with_reducible refine gate_dst (N := 79) rfl ?_); refine Kd.R_lit (Kd.int .i32) _ 21 ?hg (N := 79) ?hd (xs := ([wrap32 (a0 + 1)] : List Int)) (inner := [.int .i32 (wrap32 (a0 + 1))]) (ok := fun _ => True) (okp := fun _ => True) ?hr ?hp (fun _ hk => hk) trivial (Below.refl _ _) (Nat.le_refl _) (by simp) ?_; (case hd => rfl); (case hg => rfl); (case hr => first | (go_simp; done) | (go_simp; rfl)); (case hp => exact (Reps.one (show Kd.M (Kd.int .i32) _ _ _ (wrap32 (a0 + 1)) [.int .i32 (wrap32 (a0 + 1))] from rfl) (Reps.none _ _))); intro v416 w113 ho114 hb hg_ hnew_; clear hg_ hnew_; (first | rw [← Ny415.out] at ho114 | (simp only [Int.reduceToNat] at ho114; rw [← Ny415.out] at ho114)); have n0_ := Aside0.mk (Kd.R_lower ho114 (below_size (by repeat (first | (with_reducible first | exact HB.out | apply below_alloc | apply pw_below_drewN | apply below_drew1) | exact HB.out)))); have n1_ := Aside0.mk (below_step (by repeat (first | (with_reducible first | exact HB.out | apply below_alloc | apply pw_below_drewN | apply below_drew1) | exact HB.out)) hb); clear HB; have HO417 := n0_; have HB := n1_; clear n0_ n1_; clear hb ho114))
            go_ret
            exact ⟨_, by first | rfl | (simp [errW_none, errW_some] <;> rfl) | (simp [*, errW_none, errW_some] <;> rfl), by (with_reducible repeat (first | apply Kd.R_alloc | apply Kd.R_drewN | apply Kd.R_drew)); exact HO417.out, by repeat (first | (with_reducible first | exact HB.out | apply below_alloc | apply pw_below_drewN | apply below_drew1) | exact HB.out)⟩
           ·replace c112 := Bool.eq_false_iff.mpr c112
            subst c112
            have H1 : (if a0 = 223 then (some (([115, 115] : List Int))) else (if a0 = 7838 then (some (([115, 115] : List Int))) else (if a0 = 304 then (some (([105, 775] : List Int))) else (tremaref02_Fold.l0 k a0 (([181, 376, 383, 837, 902, 962, 8486, 8490, 8491] : List Int)) (([956, 255, 115, 953, 940, 963, 969, 107, 229] : List Int)) 0)))) = some r := by rw [if_neg (show ¬ (false = true) by decide)] at H; exact H
            clear H
            have H := H1
            clear H1
            by_cases c115 : a0 = 223
            ·rw [if_pos c115] at H
             have c115b0 : (a0 == 223) = true := beq_iff_eq.mpr c115
             have c115b1 : (a0 != 223) = false := bne_eq_false_iff_eq.mpr c115
             clear c115
             obtain ⟨y418, hy418⟩ : ∃ y_ : List Int, y_ = (([115, 115] : List Int)) := ⟨_, rfl⟩
             replace H : (some y418) = some r := by first | (rw [hy418]; with_reducible exact H) | (have H2_ := (Option.bind_some _ _).symm.trans H; rw [hy418]; with_reducible exact H2_) | (have H2_ := (Option.bind_some _ _).symm.trans H; with_reducible exact H2_) | with_reducible exact H | (rw [hy418]; exact H) | exact H
             have Ny418 := Aside0.mk hy418
             clear hy418
             obtain rfl := Option.some.inj H
             go_enter Tryd.func26, Tryd.ntmps26
             go_wp2_with (first | ((with_reducible refine gate_callee (f := 31) rfl ?_); refine goesL_ (some 16) rfl rfl Tryd.func31 (by kernel_rfl) rfl #[.int .i32 a0, .int .i32 65, .int .i32 90] rfl (by (try simp only [List.map_toArray, List.map_cons, List.map_nil]); first | done | rfl | (simp only [List.length_drop, List.length_take]; rfl)) ?_; (with_reducible refine (tremaref02_in.calls a0 65 90 false _ A2.out).mono ?_); rintro e w' ⟨rfl, ⟨nd, rfl⟩⟩; refine ⟨_, rfl, ?_⟩) | (go_at_call 31; (with_reducible refine (tremaref02_in.calls a0 192 214 false _ A6.out).mono ?_); rintro e w' ⟨rfl, ⟨nd, rfl⟩⟩) | (go_at_call 31; (with_reducible refine (tremaref02_in.calls a0 216 222 false _ A10.out).mono ?_); rintro e w' ⟨rfl, ⟨nd, rfl⟩⟩) | (go_at_call 31; (with_reducible refine (tremaref02_in.calls a0 913 929 false _ A14.out).mono ?_); rintro e w' ⟨rfl, ⟨nd, rfl⟩⟩) | (go_at_call 31; (with_reducible refine (tremaref02_in.calls a0 931 937 false _ A18.out).mono ?_); rintro e w' ⟨rfl, ⟨nd, rfl⟩⟩) | (go_at_call 31; (with_reducible refine (tremaref02_in.calls a0 1040 1071 false _ A22.out).mono ?_); rintro e w' ⟨rfl, ⟨nd, rfl⟩⟩) | ((with_reducible refine gate_callee (f := 31) rfl ?_); refine goesL_ (some 42) rfl rfl Tryd.func31 (by kernel_rfl) rfl #[.int .i32 a0, .int .i32 1024, .int .i32 1039] rfl (by (try simp only [List.map_toArray, List.map_cons, List.map_nil]); first | done | rfl | (simp only [List.length_drop, List.length_take]; rfl)) ?_; (with_reducible refine (tremaref02_in.calls a0 1024 1039 false _ A26.out).mono ?_); rintro e w' ⟨rfl, ⟨nd, rfl⟩⟩; refine ⟨_, rfl, ?_⟩) | (go_at_call 31; (with_reducible refine (tremaref02_in.calls a0 313 327 false _ A107.out).mono ?_); rintro e w' ⟨rfl, ⟨nd, rfl⟩⟩) | (go_at_call 31; (with_reducible refine (tremaref02_in.calls a0 377 381 false _ A111.out).mono ?_); rintro e w' ⟨rfl, ⟨nd, rfl⟩⟩) | ((with_reducible refine gate_dst (N := 87) rfl ?_); refine Kd.R_lit (Kd.int .i32) _ 21 ?hg (N := 87) ?hd (xs := ([115, 115] : List Int)) (inner := [.int .i32 115, .int .i32 115]) (ok := fun _ => True) (okp := fun _ => True) ?hr ?hp (fun _ hk => hk) trivial (Below.refl _ _) (Nat.le_refl _) (by simp) ?_; (case hd => rfl); (case hg => rfl); (case hr => first | (go_simp; done) | (go_simp; rfl)); (case hp => exact (Reps.one (show Kd.M (Kd.int .i32) _ _ _ 115 [.int .i32 115] from rfl) (Reps.one (show Kd.M (Kd.int .i32) _ _ _ 115 [.int .i32 115] from rfl) (Reps.none _ _)))); intro v419 w116 ho117 hb hg_ hnew_; clear hg_ hnew_; (first | rw [← Ny418.out] at ho117 | (simp only [Int.reduceToNat] at ho117; rw [← Ny418.out] at ho117)); have n0_ := Aside0.mk (Kd.R_lower ho117 (below_size (by repeat (first | (with_reducible first | exact HB.out | apply below_alloc | apply pw_below_drewN | apply below_drew1) | exact HB.out)))); have n1_ := Aside0.mk (below_step (by repeat (first | (with_reducible first | exact HB.out | apply below_alloc | apply pw_below_drewN | apply below_drew1) | exact HB.out)) hb); clear HB; have HO420 := n0_; have HB := n1_; clear n0_ n1_; clear hb ho117))
             go_ret
             exact ⟨_, by first | rfl | (simp [errW_none, errW_some] <;> rfl) | (simp [*, errW_none, errW_some] <;> rfl), by (with_reducible repeat (first | apply Kd.R_alloc | apply Kd.R_drewN | apply Kd.R_drew)); exact HO420.out, by repeat (first | (with_reducible first | exact HB.out | apply below_alloc | apply pw_below_drewN | apply below_drew1) | exact HB.out)⟩
            ·rw [if_neg c115] at H
             have c115b0 : (a0 == 223) = false := beq_eq_false_iff_ne.mpr c115
             have c115b1 : (a0 != 223) = true := bne_iff_ne.mpr c115
             by_cases c118 : a0 = 7838
             ·rw [if_pos c118] at H
              have c118b0 : (a0 == 7838) = true := beq_iff_eq.mpr c118
              have c118b1 : (a0 != 7838) = false := bne_eq_false_iff_eq.mpr c118
              clear c118
              obtain ⟨y421, hy421⟩ : ∃ y_ : List Int, y_ = (([115, 115] : List Int)) := ⟨_, rfl⟩
              replace H : (some y421) = some r := by first | (rw [hy421]; with_reducible exact H) | (have H2_ := (Option.bind_some _ _).symm.trans H; rw [hy421]; with_reducible exact H2_) | (have H2_ := (Option.bind_some _ _).symm.trans H; with_reducible exact H2_) | with_reducible exact H | (rw [hy421]; exact H) | exact H
              have Ny421 := Aside0.mk hy421
              clear hy421
              obtain rfl := Option.some.inj H
              go_enter Tryd.func26, Tryd.ntmps26
              go_wp2_with (first | ((with_reducible refine gate_callee (f := 31) rfl ?_); refine goesL_ (some 16) rfl rfl Tryd.func31 (by kernel_rfl) rfl #[.int .i32 a0, .int .i32 65, .int .i32 90] rfl (by (try simp only [List.map_toArray, List.map_cons, List.map_nil]); first | done | rfl | (simp only [List.length_drop, List.length_take]; rfl)) ?_; (with_reducible refine (tremaref02_in.calls a0 65 90 false _ A2.out).mono ?_); rintro e w' ⟨rfl, ⟨nd, rfl⟩⟩; refine ⟨_, rfl, ?_⟩) | (go_at_call 31; (with_reducible refine (tremaref02_in.calls a0 192 214 false _ A6.out).mono ?_); rintro e w' ⟨rfl, ⟨nd, rfl⟩⟩) | (go_at_call 31; (with_reducible refine (tremaref02_in.calls a0 216 222 false _ A10.out).mono ?_); rintro e w' ⟨rfl, ⟨nd, rfl⟩⟩) | (go_at_call 31; (with_reducible refine (tremaref02_in.calls a0 913 929 false _ A14.out).mono ?_); rintro e w' ⟨rfl, ⟨nd, rfl⟩⟩) | (go_at_call 31; (with_reducible refine (tremaref02_in.calls a0 931 937 false _ A18.out).mono ?_); rintro e w' ⟨rfl, ⟨nd, rfl⟩⟩) | (go_at_call 31; (with_reducible refine (tremaref02_in.calls a0 1040 1071 false _ A22.out).mono ?_); rintro e w' ⟨rfl, ⟨nd, rfl⟩⟩) | ((with_reducible refine gate_callee (f := 31) rfl ?_); refine goesL_ (some 42) rfl rfl Tryd.func31 (by kernel_rfl) rfl #[.int .i32 a0, .int .i32 1024, .int .i32 1039] rfl (by (try simp only [List.map_toArray, List.map_cons, List.map_nil]); first | done | rfl | (simp only [List.length_drop, List.length_take]; rfl)) ?_; (with_reducible refine (tremaref02_in.calls a0 1024 1039 false _ A26.out).mono ?_); rintro e w' ⟨rfl, ⟨nd, rfl⟩⟩; refine ⟨_, rfl, ?_⟩) | (go_at_call 31; (with_reducible refine (tremaref02_in.calls a0 313 327 false _ A107.out).mono ?_); rintro e w' ⟨rfl, ⟨nd, rfl⟩⟩) | (go_at_call 31; (with_reducible refine (tremaref02_in.calls a0 377 381 false _ A111.out).mono ?_); rintro e w' ⟨rfl, ⟨nd, rfl⟩⟩) | ((with_reducible refine gate_dst (N := 87) rfl ?_); refine Kd.R_lit (Kd.int .i32) _ 21 ?hg (N := 87) ?hd (xs := ([115, 115] : List Int)) (inner := [.int .i32 115, .int .i32 115]) (ok := fun _ => True) (okp := fun _ => True) ?hr ?hp (fun _ hk => hk) trivial (Below.refl _ _) (Nat.le_refl _) (by simp) ?_; (case hd => rfl); (case hg => rfl); (case hr => first | (go_simp; done) | (go_simp; rfl)); (case hp => exact (Reps.one (show Kd.M (Kd.int .i32) _ _ _ 115 [.int .i32 115] from rfl) (Reps.one (show Kd.M (Kd.int .i32) _ _ _ 115 [.int .i32 115] from rfl) (Reps.none _ _)))); intro v422 w119 ho120 hb hg_ hnew_; clear hg_ hnew_; (first | rw [← Ny421.out] at ho120 | (simp only [Int.reduceToNat] at ho120; rw [← Ny421.out] at ho120)); have n0_ := Aside0.mk (Kd.R_lower ho120 (below_size (by repeat (first | (with_reducible first | exact HB.out | apply below_alloc | apply pw_below_drewN | apply below_drew1) | exact HB.out)))); have n1_ := Aside0.mk (below_step (by repeat (first | (with_reducible first | exact HB.out | apply below_alloc | apply pw_below_drewN | apply below_drew1) | exact HB.out)) hb); clear HB; have HO423 := n0_; have HB := n1_; clear n0_ n1_; clear hb ho120))
              go_ret
              exact ⟨_, by first | rfl | (simp [errW_none, errW_some] <;> rfl) | (simp [*, errW_none, errW_some] <;> rfl), by (with_reducible repeat (first | apply Kd.R_alloc | apply Kd.R_drewN | apply Kd.R_drew)); exact HO423.out, by repeat (first | (with_reducible first | exact HB.out | apply below_alloc | apply pw_below_drewN | apply below_drew1) | exact HB.out)⟩
             ·rw [if_neg c118] at H
              have c118b0 : (a0 == 7838) = false := beq_eq_false_iff_ne.mpr c118
              have c118b1 : (a0 != 7838) = true := bne_iff_ne.mpr c118
              by_cases c121 : a0 = 304
              ·rw [if_pos c121] at H
               have c121b0 : (a0 == 304) = true := beq_iff_eq.mpr c121
               have c121b1 : (a0 != 304) = false := bne_eq_false_iff_eq.mpr c121
               clear c121
               obtain ⟨y424, hy424⟩ : ∃ y_ : List Int, y_ = (([105, 775] : List Int)) := ⟨_, rfl⟩
               replace H : (some y424) = some r := by first | (rw [hy424]; with_reducible exact H) | (have H2_ := (Option.bind_some _ _).symm.trans H; rw [hy424]; with_reducible exact H2_) | (have H2_ := (Option.bind_some _ _).symm.trans H; with_reducible exact H2_) | with_reducible exact H | (rw [hy424]; exact H) | exact H
               have Ny424 := Aside0.mk hy424
               clear hy424
               obtain rfl := Option.some.inj H
               go_enter Tryd.func26, Tryd.ntmps26
               go_wp2_with (first | ((with_reducible refine gate_callee (f := 31) rfl ?_); refine goesL_ (some 16) rfl rfl Tryd.func31 (by kernel_rfl) rfl #[.int .i32 a0, .int .i32 65, .int .i32 90] rfl (by (try simp only [List.map_toArray, List.map_cons, List.map_nil]); first | done | rfl | (simp only [List.length_drop, List.length_take]; rfl)) ?_; (with_reducible refine (tremaref02_in.calls a0 65 90 false _ A2.out).mono ?_); rintro e w' ⟨rfl, ⟨nd, rfl⟩⟩; refine ⟨_, rfl, ?_⟩) | (go_at_call 31; (with_reducible refine (tremaref02_in.calls a0 192 214 false _ A6.out).mono ?_); rintro e w' ⟨rfl, ⟨nd, rfl⟩⟩) | (go_at_call 31; (with_reducible refine (tremaref02_in.calls a0 216 222 false _ A10.out).mono ?_); rintro e w' ⟨rfl, ⟨nd, rfl⟩⟩) | (go_at_call 31; (with_reducible refine (tremaref02_in.calls a0 913 929 false _ A14.out).mono ?_); rintro e w' ⟨rfl, ⟨nd, rfl⟩⟩) | (go_at_call 31; (with_reducible refine (tremaref02_in.calls a0 931 937 false _ A18.out).mono ?_); rintro e w' ⟨rfl, ⟨nd, rfl⟩⟩) | (go_at_call 31; (with_reducible refine (tremaref02_in.calls a0 1040 1071 false _ A22.out).mono ?_); rintro e w' ⟨rfl, ⟨nd, rfl⟩⟩) | ((with_reducible refine gate_callee (f := 31) rfl ?_); refine goesL_ (some 42) rfl rfl Tryd.func31 (by kernel_rfl) rfl #[.int .i32 a0, .int .i32 1024, .int .i32 1039] rfl (by (try simp only [List.map_toArray, List.map_cons, List.map_nil]); first | done | rfl | (simp only [List.length_drop, List.length_take]; rfl)) ?_; (with_reducible refine (tremaref02_in.calls a0 1024 1039 false _ A26.out).mono ?_); rintro e w' ⟨rfl, ⟨nd, rfl⟩⟩; refine ⟨_, rfl, ?_⟩) | (go_at_call 31; (with_reducible refine (tremaref02_in.calls a0 313 327 false _ A107.out).mono ?_); rintro e w' ⟨rfl, ⟨nd, rfl⟩⟩) | (go_at_call 31; (with_reducible refine (tremaref02_in.calls a0 377 381 false _ A111.out).mono ?_); rintro e w' ⟨rfl, ⟨nd, rfl⟩⟩) | ((with_reducible refine gate_dst (N := 91) rfl ?_); refine Kd.R_lit (Kd.int .i32) _ 21 ?hg (N := 91) ?hd (xs := ([105, 775] : List Int)) (inner := [.int .i32 105, .int .i32 775]) (ok := fun _ => True) (okp := fun _ => True) ?hr ?hp (fun _ hk => hk) trivial (Below.refl _ _) (Nat.le_refl _) (by simp) ?_; (case hd => rfl); (case hg => rfl); (case hr => first | (go_simp; done) | (go_simp; rfl)); (case hp => exact (Reps.one (show Kd.M (Kd.int .i32) _ _ _ 105 [.int .i32 105] from rfl) (Reps.one (show Kd.M (Kd.int .i32) _ _ _ 775 [.int .i32 775] from rfl) (Reps.none _ _)))); intro v425 w122 ho123 hb hg_ hnew_; clear hg_ hnew_; (first | rw [← Ny424.out] at ho123 | (simp only [Int.reduceToNat] at ho123; rw [← Ny424.out] at ho123)); have n0_ := Aside0.mk (Kd.R_lower ho123 (below_size (by repeat (first | (with_reducible first | exact HB.out | apply below_alloc | apply pw_below_drewN | apply below_drew1) | exact HB.out)))); have n1_ := Aside0.mk (below_step (by repeat (first | (with_reducible first | exact HB.out | apply below_alloc | apply pw_below_drewN | apply below_drew1) | exact HB.out)) hb); clear HB; have HO426 := n0_; have HB := n1_; clear n0_ n1_; clear hb ho123))
               go_ret
               exact ⟨_, by first | rfl | (simp [errW_none, errW_some] <;> rfl) | (simp [*, errW_none, errW_some] <;> rfl), by (with_reducible repeat (first | apply Kd.R_alloc | apply Kd.R_drewN | apply Kd.R_drew)); exact HO426.out, by repeat (first | (with_reducible first | exact HB.out | apply below_alloc | apply pw_below_drewN | apply below_drew1) | exact HB.out)⟩
              ·rw [if_neg c121] at H
               have c121b0 : (a0 == 304) = false := beq_eq_false_iff_ne.mpr c121
               have c121b1 : (a0 != 304) = true := bne_iff_ne.mpr c121
               obtain ⟨y427, hy427⟩ : ∃ y_ : List Int, y_ = (([181, 376, 383, 837, 902, 962, 8486, 8490, 8491] : List Int)) := ⟨_, rfl⟩
               replace H : (tremaref02_Fold.l0 k a0 y427 (([956, 255, 115, 953, 940, 963, 969, 107, 229] : List Int)) 0) = some r := by first | (rw [hy427]; with_reducible exact H) | (have H2_ := (Option.bind_some _ _).symm.trans H; rw [hy427]; with_reducible exact H2_) | (have H2_ := (Option.bind_some _ _).symm.trans H; with_reducible exact H2_) | with_reducible exact H | (rw [hy427]; exact H) | exact H
               have Ny427 := Aside0.mk hy427
               clear hy427
               obtain ⟨y430, hy430⟩ : ∃ y_ : List Int, y_ = (([956, 255, 115, 953, 940, 963, 969, 107, 229] : List Int)) := ⟨_, rfl⟩
               replace H : (tremaref02_Fold.l0 k a0 y427 y430 0) = some r := by first | (rw [hy430]; with_reducible exact H) | (have H2_ := (Option.bind_some _ _).symm.trans H; rw [hy430]; with_reducible exact H2_) | (have H2_ := (Option.bind_some _ _).symm.trans H; with_reducible exact H2_) | with_reducible exact H | (rw [hy430]; exact H) | exact H
               have Ny430 := Aside0.mk hy430
               clear hy430
               have H' := Aside0.mk H
               clear H
               go_enter Tryd.func26, Tryd.ntmps26
               go_wp2_with (first | ((with_reducible refine gate_callee (f := 31) rfl ?_); refine goesL_ (some 16) rfl rfl Tryd.func31 (by kernel_rfl) rfl #[.int .i32 a0, .int .i32 65, .int .i32 90] rfl (by (try simp only [List.map_toArray, List.map_cons, List.map_nil]); first | done | rfl | (simp only [List.length_drop, List.length_take]; rfl)) ?_; (with_reducible refine (tremaref02_in.calls a0 65 90 false _ A2.out).mono ?_); rintro e w' ⟨rfl, ⟨nd, rfl⟩⟩; refine ⟨_, rfl, ?_⟩) | (go_at_call 31; (with_reducible refine (tremaref02_in.calls a0 192 214 false _ A6.out).mono ?_); rintro e w' ⟨rfl, ⟨nd, rfl⟩⟩) | (go_at_call 31; (with_reducible refine (tremaref02_in.calls a0 216 222 false _ A10.out).mono ?_); rintro e w' ⟨rfl, ⟨nd, rfl⟩⟩) | (go_at_call 31; (with_reducible refine (tremaref02_in.calls a0 913 929 false _ A14.out).mono ?_); rintro e w' ⟨rfl, ⟨nd, rfl⟩⟩) | (go_at_call 31; (with_reducible refine (tremaref02_in.calls a0 931 937 false _ A18.out).mono ?_); rintro e w' ⟨rfl, ⟨nd, rfl⟩⟩) | (go_at_call 31; (with_reducible refine (tremaref02_in.calls a0 1040 1071 false _ A22.out).mono ?_); rintro e w' ⟨rfl, ⟨nd, rfl⟩⟩) | ((with_reducible refine gate_callee (f := 31) rfl ?_); refine goesL_ (some 42) rfl rfl Tryd.func31 (by kernel_rfl) rfl #[.int .i32 a0, .int .i32 1024, .int .i32 1039] rfl (by (try simp only [List.map_toArray, List.map_cons, List.map_nil]); first | done | rfl | (simp only [List.length_drop, List.length_take]; rfl)) ?_; (with_reducible refine (tremaref02_in.calls a0 1024 1039 false _ A26.out).mono ?_); rintro e w' ⟨rfl, ⟨nd, rfl⟩⟩; refine ⟨_, rfl, ?_⟩) | (go_at_call 31; (with_reducible refine (tremaref02_in.calls a0 313 327 false _ A107.out).mono ?_); rintro e w' ⟨rfl, ⟨nd, rfl⟩⟩) | (go_at_call 31; (with_reducible refine (tremaref02_in.calls a0 377 381 false _ A111.out).mono ?_); rintro e w' ⟨rfl, ⟨nd, rfl⟩⟩) | ((with_reducible refine gate_dst (N := 92) rfl ?_); refine Kd.R_lit (Kd.int .i32) _ 21 ?hg (N := 92) ?hd (xs := ([181, 376, 383, 837, 902, 962, 8486, 8490, 8491] : List Int)) (inner := [.int .i32 181, .int .i32 376, .int .i32 383, .int .i32 837, .int .i32 902, .int .i32 962, .int .i32 8486, .int .i32 8490, .int .i32 8491]) (ok := fun _ => True) (okp := fun _ => True) ?hr ?hp (fun _ hk => hk) trivial (Below.refl _ _) (Nat.le_refl _) (by simp) ?_; (case hd => rfl); (case hg => rfl); (case hr => first | (go_simp; done) | (go_simp; rfl)); (case hp => exact (Reps.one (show Kd.M (Kd.int .i32) _ _ _ 181 [.int .i32 181] from rfl) (Reps.one (show Kd.M (Kd.int .i32) _ _ _ 376 [.int .i32 376] from rfl) (Reps.one (show Kd.M (Kd.int .i32) _ _ _ 383 [.int .i32 383] from rfl) (Reps.one (show Kd.M (Kd.int .i32) _ _ _ 837 [.int .i32 837] from rfl) (Reps.one (show Kd.M (Kd.int .i32) _ _ _ 902 [.int .i32 902] from rfl) (Reps.one (show Kd.M (Kd.int .i32) _ _ _ 962 [.int .i32 962] from rfl) (Reps.one (show Kd.M (Kd.int .i32) _ _ _ 8486 [.int .i32 8486] from rfl) (Reps.one (show Kd.M (Kd.int .i32) _ _ _ 8490 [.int .i32 8490] from rfl) (Reps.one (show Kd.M (Kd.int .i32) _ _ _ 8491 [.int .i32 8491] from rfl) (Reps.none _ _))))))))))); intro v428 w124 ho125 hb hg_ hnew_; clear hg_ hnew_; (first | rw [← Ny427.out] at ho125 | (simp only [Int.reduceToNat] at ho125; rw [← Ny427.out] at ho125)); have n0_ := Aside0.mk (Kd.R_lower ho125 (below_size (by repeat (first | (with_reducible first | exact HB.out | apply below_alloc | apply pw_below_drewN | apply below_drew1) | exact HB.out)))); have n1_ := Aside0.mk (below_step (by repeat (first | (with_reducible first | exact HB.out | apply below_alloc | apply pw_below_drewN | apply below_drew1) | exact HB.out)) hb); clear HB; have HO429 := n0_; have HB := n1_; clear n0_ n1_; clear hb ho125) | ((with_reducible refine gate_dst (N := 93) rfl ?_); refine Kd.R_lit (Kd.int .i32) _ 21 ?hg (N := 93) ?hd (xs := ([956, 255, 115, 953, 940, 963, 969, 107, 229] : List Int)) (inner := [.int .i32 956, .int .i32 255, .int .i32 115, .int .i32 953, .int .i32 940, .int .i32 963, .int .i32 969, .int .i32 107, .int .i32 229]) (ok := fun _ => True) (okp := fun _ => True) ?hr ?hp (fun _ hk => hk) trivial (Below.refl _ _) (Nat.le_refl _) (by simp) ?_; (case hd => rfl); (case hg => rfl); (case hr => first | (go_simp; done) | (go_simp; rfl)); (case hp => exact (Reps.one (show Kd.M (Kd.int .i32) _ _ _ 956 [.int .i32 956] from rfl) (Reps.one (show Kd.M (Kd.int .i32) _ _ _ 255 [.int .i32 255] from rfl) (Reps.one (show Kd.M (Kd.int .i32) _ _ _ 115 [.int .i32 115] from rfl) (Reps.one (show Kd.M (Kd.int .i32) _ _ _ 953 [.int .i32 953] from rfl) (Reps.one (show Kd.M (Kd.int .i32) _ _ _ 940 [.int .i32 940] from rfl) (Reps.one (show Kd.M (Kd.int .i32) _ _ _ 963 [.int .i32 963] from rfl) (Reps.one (show Kd.M (Kd.int .i32) _ _ _ 969 [.int .i32 969] from rfl) (Reps.one (show Kd.M (Kd.int .i32) _ _ _ 107 [.int .i32 107] from rfl) (Reps.one (show Kd.M (Kd.int .i32) _ _ _ 229 [.int .i32 229] from rfl) (Reps.none _ _))))))))))); intro v431 w126 ho127 hb hg_ hnew_; clear hg_ hnew_; (first | rw [← Ny430.out] at ho127 | (simp only [Int.reduceToNat] at ho127; rw [← Ny430.out] at ho127)); have n0_ := Aside0.mk (Kd.R_elder' (by (with_reducible repeat (first | apply Kd.R_alloc | apply Kd.R_drewN | apply Kd.R_drew)); exact HO429.out) (Kd.R_base ho127) hb); have n1_ := Aside0.mk (Kd.R_lower (Kd.R_new' ho127 (Kd.R_lt (by (with_reducible repeat (first | apply Kd.R_alloc | apply Kd.R_drewN | apply Kd.R_drew)); exact HO429.out))) (below_size (by repeat (first | (with_reducible first | exact HB.out | apply below_alloc | apply pw_below_drewN | apply below_drew1) | exact HB.out)))); have n2_ := Aside0.mk (below_step (by repeat (first | (with_reducible first | exact HB.out | apply below_alloc | apply pw_below_drewN | apply below_drew1) | exact HB.out)) hb); clear HO429; clear HB; have HO429 := n0_; have HO432 := n1_; have HB := n2_; clear n0_ n1_ n2_; clear hb ho127))
               go_loopg [7] k (fun kq v7 w' => ∃ (x7_1 : Int), v7 = .int .i64 x7_1 ∧ Aside0 (tremaref02_Fold.l0 kq a0 y427 y430 x7_1 = some r) ∧ Aside0 (kq ≤ k) ∧ Aside0 (Kd.R (Kd.int .i32) 21 w' w.heap.size (fun k_ => some k_ ≠ (v431 : Value).ownBlock) v428 y427) ∧ Aside0 (Kd.R (Kd.int .i32) 21 w' w.heap.size (fun k_ => some k_ ≠ (v428 : Value).ownBlock) v431 y430) ∧ Aside0 (Below w.heap.size w w'))
               case atStart => exact ⟨(0), (by first | rfl | (simp; done) | (simp [*]; done)), H', ⟨Nat.le_refl _⟩, ⟨by (with_reducible repeat (first | apply Kd.R_alloc | apply Kd.R_drewN | apply Kd.R_drew)); exact Kd.R_mono HO429.out (fun _ hk => hk.2)⟩, ⟨by (with_reducible repeat (first | apply Kd.R_alloc | apply Kd.R_drewN | apply Kd.R_drew)); exact Kd.R_mono HO432.out (fun _ hk => hk.2)⟩, ⟨by repeat (first | (with_reducible first | exact HB.out | apply below_alloc | apply pw_below_drewN | apply below_drew1) | exact HB.out)⟩⟩
               case round =>
                clear H'
                try clear c1
                try clear c2
                try clear p2
                try clear c3
                try clear p3
                try clear q3
                try clear hx3
                try clear c4
                try clear c5
                try clear c6
                try clear p6
                try clear c7
                try clear c8
                try clear c9
                try clear c10
                try clear c11
                try clear c12
                try clear c15
                try clear c19
                try clear c23
                try clear c26
                try clear c27
                try clear c30
                try clear c30b0
                try clear c30b1
                try clear c31
                try clear c32
                try clear p32
                try clear c36
                try clear p38
                try clear q38
                try clear hx38
                try clear c40
                try clear c44
                try clear c47
                try clear c47b0
                try clear c47b1
                try clear c49
                try clear c53
                try clear c56
                try clear c56b0
                try clear c56b1
                try clear c59
                try clear c59b0
                try clear c59b1
                try clear c62
                try clear c62b0
                try clear c62b1
                try clear p64
                try clear c69
                try clear c69b0
                try clear c70
                try clear c70b0
                try clear c71
                try clear c71b0
                try clear c71b1
                try clear c72
                try clear c72b0
                try clear c81
                try clear c81b0
                try clear c81b1
                try clear c84
                try clear c84b0
                try clear c84b1
                try clear c87
                try clear c87b0
                try clear c87b1
                try clear c94
                try clear c94b0
                try clear c95
                try clear c95b0
                try clear c96
                try clear c96b0
                try clear c96b1
                try clear c97
                try clear c97b0
                try clear c106
                try clear c106b0
                try clear c106b1
                try clear c108
                try clear c112
                try clear c115
                try clear c115b0
                try clear c115b1
                try clear c118
                try clear c118b0
                try clear c118b1
                try clear c121
                try clear c121b0
                try clear c121b1
                try clear hx387_0
                try clear hx388_0
                try clear p2
                try clear p3
                try clear p32
                try clear p38
                try clear p387
                try clear p388
                try clear p6
                try clear p64
                try clear q3
                try clear q38
                try clear q387
                try clear q388
                obtain ⟨x7_1, rfl, HA, HK1, HO_5, HO_6, HB⟩ := hrel
                cases gk with
                | zero => exact absurd HA.out (by simp [tremaref02_Fold.l0])
                | succ k1 =>
                 have H := HA.out
                 clear HA
                 simp only [tremaref02_Fold.l0] at H
                 by_cases c128 : x7_1 < (y427.length : Int)
                 ·rw [if_pos c128] at H
                  have c128b0 : decide (x7_1 < (y427.length : Int)) = true := decide_eq_true c128
                  clear c128
                  by_cases c129 : 0 ≤ x7_1
                  ·rw [if_pos c129] at H
                   have c129b0 : decide (0 ≤ x7_1) = true := decide_eq_true c129
                   clear c129
                   by_cases c130 : a0 = (rd y427 x7_1)
                   ·rw [if_pos c130] at H
                    have c130b0 : (a0 == (rd y427 x7_1)) = true := beq_iff_eq.mpr c130
                    have c130b1 : (a0 != (rd y427 x7_1)) = false := bne_eq_false_iff_eq.mpr c130
                    clear c130
                    by_cases c131 : x7_1 < (y430.length : Int)
                    ·rw [if_pos c131] at H
                     have c131b0 : decide (x7_1 < (y430.length : Int)) = true := decide_eq_true c131
                     clear c131
                     obtain ⟨y389, hy389⟩ : ∃ y_ : List Int, y_ = (([rd y430 x7_1] : List Int)) := ⟨_, rfl⟩
                     replace H : (some y389) = some r := by first | (rw [hy389]; with_reducible exact H) | (have H2_ := (Option.bind_some _ _).symm.trans H; rw [hy389]; with_reducible exact H2_) | (have H2_ := (Option.bind_some _ _).symm.trans H; with_reducible exact H2_) | with_reducible exact H | (rw [hy389]; exact H) | exact H
                     have Ny389 := Aside0.mk hy389
                     clear hy389
                     obtain rfl := Option.some.inj H
                     obtain ⟨Ao132, co132, eo132⟩ := Kd.R_slice HO_5.out
                     subst eo132
                     have p387 : 0 ≤ (x7_1 : Int) := of_decide_eq_true (by first | (with_reducible assumption) | assumption)
                     have q387 : x7_1 < (y427.length : Int) := of_decide_eq_true (by first | (with_reducible assumption) | assumption)
                     obtain ⟨ad387, e387, hx387_0⟩ := Kd.at_int (Kd.R_reads' HO_5.out).2.2 x7_1 p387 q387
                     cases e387
                     replace p387 := eq_true p387
                     replace q387 := eq_true q387
                     obtain ⟨Ao133, co133, eo133⟩ := Kd.R_slice HO_6.out
                     subst eo133
                     have p388 : 0 ≤ (x7_1 : Int) := of_decide_eq_true (by first | (with_reducible assumption) | assumption)
                     have q388 : x7_1 < (y430.length : Int) := of_decide_eq_true (by first | (with_reducible assumption) | assumption)
                     obtain ⟨ad388, e388, hx388_0⟩ := Kd.at_int (Kd.R_reads' HO_6.out).2.2 x7_1 p388 q388
                     cases e388
                     replace p388 := eq_true p388
                     replace q388 := eq_true q388
                     go_wp2_with (first | ((with_reducible refine gate_dst (N := 110) rfl ?_); refine Kd.R_lit (Kd.int .i32) _ 21 ?hg (N := 110) ?hd (xs := ([rd y430 x7_1] : List Int)) (inner := [.int .i32 (rd y430 x7_1)]) (ok := fun _ => True) (okp := fun _ => True) ?hr ?hp (fun _ hk => hk) trivial (Below.refl _ _) (Nat.le_refl _) (by simp) ?_; (case hd => rfl); (case hg => rfl); (case hr => first | (go_simp; done) | (go_simp; rfl)); (case hp => exact (Reps.one (show Kd.M (Kd.int .i32) _ _ _ (rd y430 x7_1) [.int .i32 (rd y430 x7_1)] from rfl) (Reps.none _ _))); intro v390 w134 ho135 hb hg_ hnew_; clear hg_ hnew_; (first | rw [← Ny389.out] at ho135 | (simp only [Int.reduceToNat] at ho135; rw [← Ny389.out] at ho135)); have n0_ := Aside0.mk (Kd.R_elder' (by (with_reducible repeat (first | apply Kd.R_alloc | apply Kd.R_drewN | apply Kd.R_drew)); exact HO_5.out) (Kd.R_base ho135) hb); have n1_ := Aside0.mk (Kd.R_elder' (by (with_reducible repeat (first | apply Kd.R_alloc | apply Kd.R_drewN | apply Kd.R_drew)); exact HO_6.out) (Kd.R_base ho135) hb); have n2_ := Aside0.mk (Kd.R_lower (Kd.R_new' (Kd.R_new' ho135 (Kd.R_lt (by (with_reducible repeat (first | apply Kd.R_alloc | apply Kd.R_drewN | apply Kd.R_drew)); exact HO_5.out))) (Kd.R_lt (by (with_reducible repeat (first | apply Kd.R_alloc | apply Kd.R_drewN | apply Kd.R_drew)); exact HO_6.out))) (below_size (by repeat (first | (with_reducible first | exact HB.out | apply below_alloc | apply pw_below_drewN | apply below_drew1) | exact HB.out)))); have n3_ := Aside0.mk (below_step (by repeat (first | (with_reducible first | exact HB.out | apply below_alloc | apply pw_below_drewN | apply below_drew1) | exact HB.out)) hb); clear HO_5; clear HO_6; clear HB; have HO_5 := n0_; have HO_6 := n1_; have HO391 := n2_; have HB := n3_; clear n0_ n1_ n2_ n3_; clear hb ho135))
                     go_ret
                     exact ⟨_, by first | rfl | (simp [errW_none, errW_some] <;> rfl) | (simp [*, errW_none, errW_some] <;> rfl), by (with_reducible repeat (first | apply Kd.R_alloc | apply Kd.R_drewN | apply Kd.R_drew)); exact Kd.R_mono HO391.out (fun _ hk => trivial), by repeat (first | (with_reducible first | exact HB.out | apply below_alloc | apply pw_below_drewN | apply below_drew1) | exact HB.out)⟩
                    ·rw [if_neg c131] at H
                     exact absurd H (by simp)
                   ·rw [if_neg c130] at H
                    have c130b0 : (a0 == (rd y427 x7_1)) = false := beq_eq_false_iff_ne.mpr c130
                    have c130b1 : (a0 != (rd y427 x7_1)) = true := bne_iff_ne.mpr c130
                    have H' := Aside0.mk H
                    clear H
                    obtain ⟨Ao136, co136, eo136⟩ := Kd.R_slice HO_5.out
                    subst eo136
                    have p387 : 0 ≤ (x7_1 : Int) := of_decide_eq_true (by first | (with_reducible assumption) | assumption)
                    have q387 : x7_1 < (y427.length : Int) := of_decide_eq_true (by first | (with_reducible assumption) | assumption)
                    obtain ⟨ad387, e387, hx387_0⟩ := Kd.at_int (Kd.R_reads' HO_5.out).2.2 x7_1 p387 q387
                    cases e387
                    replace p387 := eq_true p387
                    replace q387 := eq_true q387
                    go_wp2
                    go_roundg k1
                    case measure => have := HK1.out; omega
                    case rel => exact ⟨(wrap64 (x7_1 + 1)), (by first | rfl | (simp; done) | (simp [*]; done)), H', ⟨by have := HK1.out; omega⟩, ⟨by (with_reducible repeat (first | apply Kd.R_alloc | apply Kd.R_drewN | apply Kd.R_drew)); exact HO_5.out⟩, ⟨by (with_reducible repeat (first | apply Kd.R_alloc | apply Kd.R_drewN | apply Kd.R_drew)); exact HO_6.out⟩, ⟨by repeat (first | (with_reducible first | exact HB.out | apply below_alloc | apply pw_below_drewN | apply below_drew1) | exact HB.out)⟩⟩
                  ·rw [if_neg c129] at H
                   exact absurd H (by simp)
                 ·rw [if_neg c128] at H
                  have c128b0 : decide (x7_1 < (y427.length : Int)) = false := decide_eq_false c128
                  clear c128
                  obtain ⟨y392, hy392⟩ : ∃ y_ : List Int, y_ = (([a0] : List Int)) := ⟨_, rfl⟩
                  replace H : (some y392) = some r := by first | (rw [hy392]; with_reducible exact H) | (have H2_ := (Option.bind_some _ _).symm.trans H; rw [hy392]; with_reducible exact H2_) | (have H2_ := (Option.bind_some _ _).symm.trans H; with_reducible exact H2_) | with_reducible exact H | (rw [hy392]; exact H) | exact H
                  have Ny392 := Aside0.mk hy392
                  clear hy392
                  obtain rfl := Option.some.inj H
                  obtain ⟨Ao137, co137, eo137⟩ := Kd.R_slice HO_5.out
                  subst eo137
                  go_wp2_with (first | ((with_reducible refine gate_dst (N := 112) rfl ?_); refine Kd.R_lit (Kd.int .i32) _ 21 ?hg (N := 112) ?hd (xs := ([a0] : List Int)) (inner := [.int .i32 a0]) (ok := fun _ => True) (okp := fun _ => True) ?hr ?hp (fun _ hk => hk) trivial (Below.refl _ _) (Nat.le_refl _) (by simp) ?_; (case hd => rfl); (case hg => rfl); (case hr => first | (go_simp; done) | (go_simp; rfl)); (case hp => exact (Reps.one (show Kd.M (Kd.int .i32) _ _ _ a0 [.int .i32 a0] from rfl) (Reps.none _ _))); intro v393 w138 ho139 hb hg_ hnew_; clear hg_ hnew_; (first | rw [← Ny392.out] at ho139 | (simp only [Int.reduceToNat] at ho139; rw [← Ny392.out] at ho139)); have n0_ := Aside0.mk (Kd.R_elder' (by (with_reducible repeat (first | apply Kd.R_alloc | apply Kd.R_drewN | apply Kd.R_drew)); exact HO_5.out) (Kd.R_base ho139) hb); have n1_ := Aside0.mk (Kd.R_elder' (by (with_reducible repeat (first | apply Kd.R_alloc | apply Kd.R_drewN | apply Kd.R_drew)); exact HO_6.out) (Kd.R_base ho139) hb); have n2_ := Aside0.mk (Kd.R_lower (Kd.R_new' (Kd.R_new' ho139 (Kd.R_lt (by (with_reducible repeat (first | apply Kd.R_alloc | apply Kd.R_drewN | apply Kd.R_drew)); exact HO_5.out))) (Kd.R_lt (by (with_reducible repeat (first | apply Kd.R_alloc | apply Kd.R_drewN | apply Kd.R_drew)); exact HO_6.out))) (below_size (by repeat (first | (with_reducible first | exact HB.out | apply below_alloc | apply pw_below_drewN | apply below_drew1) | exact HB.out)))); have n3_ := Aside0.mk (below_step (by repeat (first | (with_reducible first | exact HB.out | apply below_alloc | apply pw_below_drewN | apply below_drew1) | exact HB.out)) hb); clear HO_5; clear HO_6; clear HB; have HO_5 := n0_; have HO_6 := n1_; have HO394 := n2_; have HB := n3_; clear n0_ n1_ n2_ n3_; clear hb ho139))
                  go_ret
                  exact ⟨_, by first | rfl | (simp [errW_none, errW_some] <;> rfl) | (simp [*, errW_none, errW_some] <;> rfl), by (with_reducible repeat (first | apply Kd.R_alloc | apply Kd.R_drewN | apply Kd.R_drew)); exact Kd.R_mono HO394.out (fun _ hk => trivial), by repeat (first | (with_reducible first | exact HB.out | apply below_alloc | apply pw_below_drewN | apply below_drew1) | exact HB.out)⟩
         ·rw [if_neg c106] at H
          have c106b0 : ((Int.tmod a0 2) == 1) = false := beq_eq_false_iff_ne.mpr c106
          have c106b1 : ((Int.tmod a0 2) != 1) = true := bne_iff_ne.mpr c106
          by_cases c140 : a0 = 223
          ·rw [if_pos c140] at H
           have c140b0 : (a0 == 223) = true := beq_iff_eq.mpr c140
           have c140b1 : (a0 != 223) = false := bne_eq_false_iff_eq.mpr c140
           clear c140
           obtain ⟨y433, hy433⟩ : ∃ y_ : List Int, y_ = (([115, 115] : List Int)) := ⟨_, rfl⟩
           replace H : (some y433) = some r := by first | (rw [hy433]; with_reducible exact H) | (have H2_ := (Option.bind_some _ _).symm.trans H; rw [hy433]; with_reducible exact H2_) | (have H2_ := (Option.bind_some _ _).symm.trans H; with_reducible exact H2_) | with_reducible exact H | (rw [hy433]; exact H) | exact H
           have Ny433 := Aside0.mk hy433
           clear hy433
           obtain rfl := Option.some.inj H
           go_enter Tryd.func26, Tryd.ntmps26
           go_wp2_with (first | ((with_reducible refine gate_callee (f := 31) rfl ?_); refine goesL_ (some 16) rfl rfl Tryd.func31 (by kernel_rfl) rfl #[.int .i32 a0, .int .i32 65, .int .i32 90] rfl (by (try simp only [List.map_toArray, List.map_cons, List.map_nil]); first | done | rfl | (simp only [List.length_drop, List.length_take]; rfl)) ?_; (with_reducible refine (tremaref02_in.calls a0 65 90 false _ A2.out).mono ?_); rintro e w' ⟨rfl, ⟨nd, rfl⟩⟩; refine ⟨_, rfl, ?_⟩) | (go_at_call 31; (with_reducible refine (tremaref02_in.calls a0 192 214 false _ A6.out).mono ?_); rintro e w' ⟨rfl, ⟨nd, rfl⟩⟩) | (go_at_call 31; (with_reducible refine (tremaref02_in.calls a0 216 222 false _ A10.out).mono ?_); rintro e w' ⟨rfl, ⟨nd, rfl⟩⟩) | (go_at_call 31; (with_reducible refine (tremaref02_in.calls a0 913 929 false _ A14.out).mono ?_); rintro e w' ⟨rfl, ⟨nd, rfl⟩⟩) | (go_at_call 31; (with_reducible refine (tremaref02_in.calls a0 931 937 false _ A18.out).mono ?_); rintro e w' ⟨rfl, ⟨nd, rfl⟩⟩) | (go_at_call 31; (with_reducible refine (tremaref02_in.calls a0 1040 1071 false _ A22.out).mono ?_); rintro e w' ⟨rfl, ⟨nd, rfl⟩⟩) | ((with_reducible refine gate_callee (f := 31) rfl ?_); refine goesL_ (some 42) rfl rfl Tryd.func31 (by kernel_rfl) rfl #[.int .i32 a0, .int .i32 1024, .int .i32 1039] rfl (by (try simp only [List.map_toArray, List.map_cons, List.map_nil]); first | done | rfl | (simp only [List.length_drop, List.length_take]; rfl)) ?_; (with_reducible refine (tremaref02_in.calls a0 1024 1039 false _ A26.out).mono ?_); rintro e w' ⟨rfl, ⟨nd, rfl⟩⟩; refine ⟨_, rfl, ?_⟩) | ((with_reducible refine gate_dst (N := 87) rfl ?_); refine Kd.R_lit (Kd.int .i32) _ 21 ?hg (N := 87) ?hd (xs := ([115, 115] : List Int)) (inner := [.int .i32 115, .int .i32 115]) (ok := fun _ => True) (okp := fun _ => True) ?hr ?hp (fun _ hk => hk) trivial (Below.refl _ _) (Nat.le_refl _) (by simp) ?_; (case hd => rfl); (case hg => rfl); (case hr => first | (go_simp; done) | (go_simp; rfl)); (case hp => exact (Reps.one (show Kd.M (Kd.int .i32) _ _ _ 115 [.int .i32 115] from rfl) (Reps.one (show Kd.M (Kd.int .i32) _ _ _ 115 [.int .i32 115] from rfl) (Reps.none _ _)))); intro v434 w141 ho142 hb hg_ hnew_; clear hg_ hnew_; (first | rw [← Ny433.out] at ho142 | (simp only [Int.reduceToNat] at ho142; rw [← Ny433.out] at ho142)); have n0_ := Aside0.mk (Kd.R_lower ho142 (below_size (by repeat (first | (with_reducible first | exact HB.out | apply below_alloc | apply pw_below_drewN | apply below_drew1) | exact HB.out)))); have n1_ := Aside0.mk (below_step (by repeat (first | (with_reducible first | exact HB.out | apply below_alloc | apply pw_below_drewN | apply below_drew1) | exact HB.out)) hb); clear HB; have HO435 := n0_; have HB := n1_; clear n0_ n1_; clear hb ho142))
           go_ret
           exact ⟨_, by first | rfl | (simp [errW_none, errW_some] <;> rfl) | (simp [*, errW_none, errW_some] <;> rfl), by (with_reducible repeat (first | apply Kd.R_alloc | apply Kd.R_drewN | apply Kd.R_drew)); exact HO435.out, by repeat (first | (with_reducible first | exact HB.out | apply below_alloc | apply pw_below_drewN | apply below_drew1) | exact HB.out)⟩
          ·rw [if_neg c140] at H
           have c140b0 : (a0 == 223) = false := beq_eq_false_iff_ne.mpr c140
           have c140b1 : (a0 != 223) = true := bne_iff_ne.mpr c140
           by_cases c143 : a0 = 7838
           ·rw [if_pos c143] at H
            have c143b0 : (a0 == 7838) = true := beq_iff_eq.mpr c143
            have c143b1 : (a0 != 7838) = false := bne_eq_false_iff_eq.mpr c143
            clear c143
            obtain ⟨y436, hy436⟩ : ∃ y_ : List Int, y_ = (([115, 115] : List Int)) := ⟨_, rfl⟩
            replace H : (some y436) = some r := by first | (rw [hy436]; with_reducible exact H) | (have H2_ := (Option.bind_some _ _).symm.trans H; rw [hy436]; with_reducible exact H2_) | (have H2_ := (Option.bind_some _ _).symm.trans H; with_reducible exact H2_) | with_reducible exact H | (rw [hy436]; exact H) | exact H
            have Ny436 := Aside0.mk hy436
            clear hy436
            obtain rfl := Option.some.inj H
            go_enter Tryd.func26, Tryd.ntmps26
            go_wp2_with (first | ((with_reducible refine gate_callee (f := 31) rfl ?_); refine goesL_ (some 16) rfl rfl Tryd.func31 (by kernel_rfl) rfl #[.int .i32 a0, .int .i32 65, .int .i32 90] rfl (by (try simp only [List.map_toArray, List.map_cons, List.map_nil]); first | done | rfl | (simp only [List.length_drop, List.length_take]; rfl)) ?_; (with_reducible refine (tremaref02_in.calls a0 65 90 false _ A2.out).mono ?_); rintro e w' ⟨rfl, ⟨nd, rfl⟩⟩; refine ⟨_, rfl, ?_⟩) | (go_at_call 31; (with_reducible refine (tremaref02_in.calls a0 192 214 false _ A6.out).mono ?_); rintro e w' ⟨rfl, ⟨nd, rfl⟩⟩) | (go_at_call 31; (with_reducible refine (tremaref02_in.calls a0 216 222 false _ A10.out).mono ?_); rintro e w' ⟨rfl, ⟨nd, rfl⟩⟩) | (go_at_call 31; (with_reducible refine (tremaref02_in.calls a0 913 929 false _ A14.out).mono ?_); rintro e w' ⟨rfl, ⟨nd, rfl⟩⟩) | (go_at_call 31; (with_reducible refine (tremaref02_in.calls a0 931 937 false _ A18.out).mono ?_); rintro e w' ⟨rfl, ⟨nd, rfl⟩⟩) | (go_at_call 31; (with_reducible refine (tremaref02_in.calls a0 1040 1071 false _ A22.out).mono ?_); rintro e w' ⟨rfl, ⟨nd, rfl⟩⟩) | ((with_reducible refine gate_callee (f := 31) rfl ?_); refine goesL_ (some 42) rfl rfl Tryd.func31 (by kernel_rfl) rfl #[.int .i32 a0, .int .i32 1024, .int .i32 1039] rfl (by (try simp only [List.map_toArray, List.map_cons, List.map_nil]); first | done | rfl | (simp only [List.length_drop, List.length_take]; rfl)) ?_; (with_reducible refine (tremaref02_in.calls a0 1024 1039 false _ A26.out).mono ?_); rintro e w' ⟨rfl, ⟨nd, rfl⟩⟩; refine ⟨_, rfl, ?_⟩) | ((with_reducible refine gate_dst (N := 87) rfl ?_); refine Kd.R_lit (Kd.int .i32) _ 21 ?hg (N := 87) ?hd (xs := ([115, 115] : List Int)) (inner := [.int .i32 115, .int .i32 115]) (ok := fun _ => True) (okp := fun _ => True) ?hr ?hp (fun _ hk => hk) trivial (Below.refl _ _) (Nat.le_refl _) (by simp) ?_; (case hd => rfl); (case hg => rfl); (case hr => first | (go_simp; done) | (go_simp; rfl)); (case hp => exact (Reps.one (show Kd.M (Kd.int .i32) _ _ _ 115 [.int .i32 115] from rfl) (Reps.one (show Kd.M (Kd.int .i32) _ _ _ 115 [.int .i32 115] from rfl) (Reps.none _ _)))); intro v437 w144 ho145 hb hg_ hnew_; clear hg_ hnew_; (first | rw [← Ny436.out] at ho145 | (simp only [Int.reduceToNat] at ho145; rw [← Ny436.out] at ho145)); have n0_ := Aside0.mk (Kd.R_lower ho145 (below_size (by repeat (first | (with_reducible first | exact HB.out | apply below_alloc | apply pw_below_drewN | apply below_drew1) | exact HB.out)))); have n1_ := Aside0.mk (below_step (by repeat (first | (with_reducible first | exact HB.out | apply below_alloc | apply pw_below_drewN | apply below_drew1) | exact HB.out)) hb); clear HB; have HO438 := n0_; have HB := n1_; clear n0_ n1_; clear hb ho145))
            go_ret
            exact ⟨_, by first | rfl | (simp [errW_none, errW_some] <;> rfl) | (simp [*, errW_none, errW_some] <;> rfl), by (with_reducible repeat (first | apply Kd.R_alloc | apply Kd.R_drewN | apply Kd.R_drew)); exact HO438.out, by repeat (first | (with_reducible first | exact HB.out | apply below_alloc | apply pw_below_drewN | apply below_drew1) | exact HB.out)⟩
           ·rw [if_neg c143] at H
            have c143b0 : (a0 == 7838) = false := beq_eq_false_iff_ne.mpr c143
            have c143b1 : (a0 != 7838) = true := bne_iff_ne.mpr c143
            by_cases c146 : a0 = 304
            ·rw [if_pos c146] at H
             have c146b0 : (a0 == 304) = true := beq_iff_eq.mpr c146
             have c146b1 : (a0 != 304) = false := bne_eq_false_iff_eq.mpr c146
             clear c146
             obtain ⟨y439, hy439⟩ : ∃ y_ : List Int, y_ = (([105, 775] : List Int)) := ⟨_, rfl⟩
             replace H : (some y439) = some r := by first | (rw [hy439]; with_reducible exact H) | (have H2_ := (Option.bind_some _ _).symm.trans H; rw [hy439]; with_reducible exact H2_) | (have H2_ := (Option.bind_some _ _).symm.trans H; with_reducible exact H2_) | with_reducible exact H | (rw [hy439]; exact H) | exact H
             have Ny439 := Aside0.mk hy439
             clear hy439
             obtain rfl := Option.some.inj H
             go_enter Tryd.func26, Tryd.ntmps26
             go_wp2_with (first | ((with_reducible refine gate_callee (f := 31) rfl ?_); refine goesL_ (some 16) rfl rfl Tryd.func31 (by kernel_rfl) rfl #[.int .i32 a0, .int .i32 65, .int .i32 90] rfl (by (try simp only [List.map_toArray, List.map_cons, List.map_nil]); first | done | rfl | (simp only [List.length_drop, List.length_take]; rfl)) ?_; (with_reducible refine (tremaref02_in.calls a0 65 90 false _ A2.out).mono ?_); rintro e w' ⟨rfl, ⟨nd, rfl⟩⟩; refine ⟨_, rfl, ?_⟩) | (go_at_call 31; (with_reducible refine (tremaref02_in.calls a0 192 214 false _ A6.out).mono ?_); rintro e w' ⟨rfl, ⟨nd, rfl⟩⟩) | (go_at_call 31; (with_reducible refine (tremaref02_in.calls a0 216 222 false _ A10.out).mono ?_); rintro e w' ⟨rfl, ⟨nd, rfl⟩⟩) | (go_at_call 31; (with_reducible refine (tremaref02_in.calls a0 913 929 false _ A14.out).mono ?_); rintro e w' ⟨rfl, ⟨nd, rfl⟩⟩) | (go_at_call 31; (with_reducible refine (tremaref02_in.calls a0 931 937 false _ A18.out).mono ?_); rintro e w' ⟨rfl, ⟨nd, rfl⟩⟩) | (go_at_call 31; (with_reducible refine (tremaref02_in.calls a0 1040 1071 false _ A22.out).mono ?_); rintro e w' ⟨rfl, ⟨nd, rfl⟩⟩) | ((with_reducible refine gate_callee (f := 31) rfl ?_); refine goesL_ (some 42) rfl rfl Tryd.func31 (by kernel_rfl) rfl #[.int .i32 a0, .int .i32 1024, .int .i32 1039] rfl (by (try simp only [List.map_toArray, List.map_cons, List.map_nil]); first | done | rfl | (simp only [List.length_drop, List.length_take]; rfl)) ?_; (with_reducible refine (tremaref02_in.calls a0 1024 1039 false _ A26.out).mono ?_); rintro e w' ⟨rfl, ⟨nd, rfl⟩⟩; refine ⟨_, rfl, ?_⟩) | ((with_reducible refine gate_dst (N := 91) rfl ?_); refine Kd.R_lit (Kd.int .i32) _ 21 ?hg (N := 91) ?hd (xs := ([105, 775] : List Int)) (inner := [.int .i32 105, .int .i32 775]) (ok := fun _ => True) (okp := fun _ => True) ?hr ?hp (fun _ hk => hk) trivial (Below.refl _ _) (Nat.le_refl _) (by simp) ?_; (case hd => rfl); (case hg => rfl); (case hr => first | (go_simp; done) | (go_simp; rfl)); (case hp => exact (Reps.one (show Kd.M (Kd.int .i32) _ _ _ 105 [.int .i32 105] from rfl) (Reps.one (show Kd.M (Kd.int .i32) _ _ _ 775 [.int .i32 775] from rfl) (Reps.none _ _)))); intro v440 w147 ho148 hb hg_ hnew_; clear hg_ hnew_; (first | rw [← Ny439.out] at ho148 | (simp only [Int.reduceToNat] at ho148; rw [← Ny439.out] at ho148)); have n0_ := Aside0.mk (Kd.R_lower ho148 (below_size (by repeat (first | (with_reducible first | exact HB.out | apply below_alloc | apply pw_below_drewN | apply below_drew1) | exact HB.out)))); have n1_ := Aside0.mk (below_step (by repeat (first | (with_reducible first | exact HB.out | apply below_alloc | apply pw_below_drewN | apply below_drew1) | exact HB.out)) hb); clear HB; have HO441 := n0_; have HB := n1_; clear n0_ n1_; clear hb ho148))
             go_ret
             exact ⟨_, by first | rfl | (simp [errW_none, errW_some] <;> rfl) | (simp [*, errW_none, errW_some] <;> rfl), by (with_reducible repeat (first | apply Kd.R_alloc | apply Kd.R_drewN | apply Kd.R_drew)); exact HO441.out, by repeat (first | (with_reducible first | exact HB.out | apply below_alloc | apply pw_below_drewN | apply below_drew1) | exact HB.out)⟩
            ·rw [if_neg c146] at H
             have c146b0 : (a0 == 304) = false := beq_eq_false_iff_ne.mpr c146
             have c146b1 : (a0 != 304) = true := bne_iff_ne.mpr c146
             obtain ⟨y442, hy442⟩ : ∃ y_ : List Int, y_ = (([181, 376, 383, 837, 902, 962, 8486, 8490, 8491] : List Int)) := ⟨_, rfl⟩
             replace H : (tremaref02_Fold.l0 k a0 y442 (([956, 255, 115, 953, 940, 963, 969, 107, 229] : List Int)) 0) = some r := by first | (rw [hy442]; with_reducible exact H) | (have H2_ := (Option.bind_some _ _).symm.trans H; rw [hy442]; with_reducible exact H2_) | (have H2_ := (Option.bind_some _ _).symm.trans H; with_reducible exact H2_) | with_reducible exact H | (rw [hy442]; exact H) | exact H
             have Ny442 := Aside0.mk hy442
             clear hy442
             obtain ⟨y445, hy445⟩ : ∃ y_ : List Int, y_ = (([956, 255, 115, 953, 940, 963, 969, 107, 229] : List Int)) := ⟨_, rfl⟩
             replace H : (tremaref02_Fold.l0 k a0 y442 y445 0) = some r := by first | (rw [hy445]; with_reducible exact H) | (have H2_ := (Option.bind_some _ _).symm.trans H; rw [hy445]; with_reducible exact H2_) | (have H2_ := (Option.bind_some _ _).symm.trans H; with_reducible exact H2_) | with_reducible exact H | (rw [hy445]; exact H) | exact H
             have Ny445 := Aside0.mk hy445
             clear hy445
             have H' := Aside0.mk H
             clear H
             go_enter Tryd.func26, Tryd.ntmps26
             go_wp2_with (first | ((with_reducible refine gate_callee (f := 31) rfl ?_); refine goesL_ (some 16) rfl rfl Tryd.func31 (by kernel_rfl) rfl #[.int .i32 a0, .int .i32 65, .int .i32 90] rfl (by (try simp only [List.map_toArray, List.map_cons, List.map_nil]); first | done | rfl | (simp only [List.length_drop, List.length_take]; rfl)) ?_; (with_reducible refine (tremaref02_in.calls a0 65 90 false _ A2.out).mono ?_); rintro e w' ⟨rfl, ⟨nd, rfl⟩⟩; refine ⟨_, rfl, ?_⟩) | (go_at_call 31; (with_reducible refine (tremaref02_in.calls a0 192 214 false _ A6.out).mono ?_); rintro e w' ⟨rfl, ⟨nd, rfl⟩⟩) | (go_at_call 31; (with_reducible refine (tremaref02_in.calls a0 216 222 false _ A10.out).mono ?_); rintro e w' ⟨rfl, ⟨nd, rfl⟩⟩) | (go_at_call 31; (with_reducible refine (tremaref02_in.calls a0 913 929 false _ A14.out).mono ?_); rintro e w' ⟨rfl, ⟨nd, rfl⟩⟩) | (go_at_call 31; (with_reducible refine (tremaref02_in.calls a0 931 937 false _ A18.out).mono ?_); rintro e w' ⟨rfl, ⟨nd, rfl⟩⟩) | (go_at_call 31; (with_reducible refine (tremaref02_in.calls a0 1040 1071 false _ A22.out).mono ?_); rintro e w' ⟨rfl, ⟨nd, rfl⟩⟩) | ((with_reducible refine gate_callee (f := 31) rfl ?_); refine goesL_ (some 42) rfl rfl Tryd.func31 (by kernel_rfl) rfl #[.int .i32 a0, .int .i32 1024, .int .i32 1039] rfl (by (try simp only [List.map_toArray, List.map_cons, List.map_nil]); first | done | rfl | (simp only [List.length_drop, List.length_take]; rfl)) ?_; (with_reducible refine (tremaref02_in.calls a0 1024 1039 false _ A26.out).mono ?_); rintro e w' ⟨rfl, ⟨nd, rfl⟩⟩; refine ⟨_, rfl, ?_⟩) | ((with_reducible refine gate_dst (N := 92) rfl ?_); refine Kd.R_lit (Kd.int .i32) _ 21 ?hg (N := 92) ?hd (xs := ([181, 376, 383, 837, 902, 962, 8486, 8490, 8491] : List Int)) (inner := [.int .i32 181, .int .i32 376, .int .i32 383, .int .i32 837, .int .i32 902, .int .i32 962, .int .i32 8486, .int .i32 8490, .int .i32 8491]) (ok := fun _ => True) (okp := fun _ => True) ?hr ?hp (fun _ hk => hk) trivial (Below.refl _ _) (Nat.le_refl _) (by simp) ?_; (case hd => rfl); (case hg => rfl); (case hr => first | (go_simp; done) | (go_simp; rfl)); (case hp => exact (Reps.one (show Kd.M (Kd.int .i32) _ _ _ 181 [.int .i32 181] from rfl) (Reps.one (show Kd.M (Kd.int .i32) _ _ _ 376 [.int .i32 376] from rfl) (Reps.one (show Kd.M (Kd.int .i32) _ _ _ 383 [.int .i32 383] from rfl) (Reps.one (show Kd.M (Kd.int .i32) _ _ _ 837 [.int .i32 837] from rfl) (Reps.one (show Kd.M (Kd.int .i32) _ _ _ 902 [.int .i32 902] from rfl) (Reps.one (show Kd.M (Kd.int .i32) _ _ _ 962 [.int .i32 962] from rfl) (Reps.one (show Kd.M (Kd.int .i32) _ _ _ 8486 [.int .i32 8486] from rfl) (Reps.one (show Kd.M (Kd.int .i32) _ _ _ 8490 [.int .i32 8490] from rfl) (Reps.one (show Kd.M (Kd.int .i32) _ _ _ 8491 [.int .i32 8491] from rfl) (Reps.none _ _))))))))))); intro v443 w149 ho150 hb hg_ hnew_; clear hg_ hnew_; (first | rw [← Ny442.out] at ho150 | (simp only [Int.reduceToNat] at ho150; rw [← Ny442.out] at ho150)); have n0_ := Aside0.mk (Kd.R_lower ho150 (below_size (by repeat (first | (with_reducible first | exact HB.out | apply below_alloc | apply pw_below_drewN | apply below_drew1) | exact HB.out)))); have n1_ := Aside0.mk (below_step (by repeat (first | (with_reducible first | exact HB.out | apply below_alloc | apply pw_below_drewN | apply below_drew1) | exact HB.out)) hb); clear HB; have HO444 := n0_; have HB := n1_; clear n0_ n1_; clear hb ho150) | ((with_reducible refine gate_dst (N := 93) rfl ?_); refine Kd.R_lit (Kd.int .i32) _ 21 ?hg (N := 93) ?hd (xs := ([956, 255, 115, 953, 940, 963, 969, 107, 229] : List Int)) (inner := [.int .i32 956, .int .i32 255, .int .i32 115, .int .i32 953, .int .i32 940, .int .i32 963, .int .i32 969, .int .i32 107, .int .i32 229]) (ok := fun _ => True) (okp := fun _ => True) ?hr ?hp (fun _ hk => hk) trivial (Below.refl _ _) (Nat.le_refl _) (by simp) ?_; (case hd => rfl); (case hg => rfl); (case hr => first | (go_simp; done) | (go_simp; rfl)); (case hp => exact (Reps.one (show Kd.M (Kd.int .i32) _ _ _ 956 [.int .i32 956] from rfl) (Reps.one (show Kd.M (Kd.int .i32) _ _ _ 255 [.int .i32 255] from rfl) (Reps.one (show Kd.M (Kd.int .i32) _ _ _ 115 [.int .i32 115] from rfl) (Reps.one (show Kd.M (Kd.int .i32) _ _ _ 953 [.int .i32 953] from rfl) (Reps.one (show Kd.M (Kd.int .i32) _ _ _ 940 [.int .i32 940] from rfl) (Reps.one (show Kd.M (Kd.int .i32) _ _ _ 963 [.int .i32 963] from rfl) (Reps.one (show Kd.M (Kd.int .i32) _ _ _ 969 [.int .i32 969] from rfl) (Reps.one (show Kd.M (Kd.int .i32) _ _ _ 107 [.int .i32 107] from rfl) (Reps.one (show Kd.M (Kd.int .i32) _ _ _ 229 [.int .i32 229] from rfl) (Reps.none _ _))))))))))); intro v446 w151 ho152 hb hg_ hnew_; clear hg_ hnew_; (first | rw [← Ny445.out] at ho152 | (simp only [Int.reduceToNat] at ho152; rw [← Ny445.out] at ho152)); have n0_ := Aside0.mk (Kd.R_elder' (by (with_reducible repeat (first | apply Kd.R_alloc | apply Kd.R_drewN | apply Kd.R_drew)); exact HO444.out) (Kd.R_base ho152) hb); have n1_ := Aside0.mk (Kd.R_lower (Kd.R_new' ho152 (Kd.R_lt (by (with_reducible repeat (first | apply Kd.R_alloc | apply Kd.R_drewN | apply Kd.R_drew)); exact HO444.out))) (below_size (by repeat (first | (with_reducible first | exact HB.out | apply below_alloc | apply pw_below_drewN | apply below_drew1) | exact HB.out)))); have n2_ := Aside0.mk (below_step (by repeat (first | (with_reducible first | exact HB.out | apply below_alloc | apply pw_below_drewN | apply below_drew1) | exact HB.out)) hb); clear HO444; clear HB; have HO444 := n0_; have HO447 := n1_; have HB := n2_; clear n0_ n1_ n2_; clear hb ho152))
             go_loopg [7] k (fun kq v7 w' => ∃ (x7_1 : Int), v7 = .int .i64 x7_1 ∧ Aside0 (tremaref02_Fold.l0 kq a0 y442 y445 x7_1 = some r) ∧ Aside0 (kq ≤ k) ∧ Aside0 (Kd.R (Kd.int .i32) 21 w' w.heap.size (fun k_ => some k_ ≠ (v446 : Value).ownBlock) v443 y442) ∧ Aside0 (Kd.R (Kd.int .i32) 21 w' w.heap.size (fun k_ => some k_ ≠ (v443 : Value).ownBlock) v446 y445) ∧ Aside0 (Below w.heap.size w w'))
             case atStart => exact ⟨(0), (by first | rfl | (simp; done) | (simp [*]; done)), H', ⟨Nat.le_refl _⟩, ⟨by (with_reducible repeat (first | apply Kd.R_alloc | apply Kd.R_drewN | apply Kd.R_drew)); exact Kd.R_mono HO444.out (fun _ hk => hk.2)⟩, ⟨by (with_reducible repeat (first | apply Kd.R_alloc | apply Kd.R_drewN | apply Kd.R_drew)); exact Kd.R_mono HO447.out (fun _ hk => hk.2)⟩, ⟨by repeat (first | (with_reducible first | exact HB.out | apply below_alloc | apply pw_below_drewN | apply below_drew1) | exact HB.out)⟩⟩
             case round =>
              clear H'
              try clear c1
              try clear c2
              try clear p2
              try clear c3
              try clear p3
              try clear q3
              try clear hx3
              try clear c4
              try clear c5
              try clear c6
              try clear p6
              try clear c7
              try clear c8
              try clear c9
              try clear c10
              try clear c11
              try clear c12
              try clear c13
              try clear c14
              try clear c15
              try clear c19
              try clear c23
              try clear c26
              try clear c27
              try clear c30
              try clear c30b0
              try clear c30b1
              try clear c31
              try clear c32
              try clear p32
              try clear c36
              try clear p38
              try clear q38
              try clear hx38
              try clear c40
              try clear c44
              try clear c47
              try clear c47b0
              try clear c47b1
              try clear c49
              try clear c53
              try clear c56
              try clear c56b0
              try clear c56b1
              try clear c59
              try clear c59b0
              try clear c59b1
              try clear c62
              try clear c62b0
              try clear c62b1
              try clear p64
              try clear c69
              try clear c69b0
              try clear c70
              try clear c70b0
              try clear c71
              try clear c71b0
              try clear c71b1
              try clear c72
              try clear c72b0
              try clear c81
              try clear c81b0
              try clear c81b1
              try clear c84
              try clear c84b0
              try clear c84b1
              try clear c87
              try clear c87b0
              try clear c87b1
              try clear c94
              try clear c94b0
              try clear c95
              try clear c95b0
              try clear c96
              try clear c96b0
              try clear c96b1
              try clear c97
              try clear c97b0
              try clear c106
              try clear c106b0
              try clear c106b1
              try clear c108
              try clear c112
              try clear c115
              try clear c115b0
              try clear c115b1
              try clear c118
              try clear c118b0
              try clear c118b1
              try clear c121
              try clear c121b0
              try clear c121b1
              try clear c128
              try clear c128b0
              try clear c129
              try clear c129b0
              try clear c130
              try clear c130b0
              try clear c130b1
              try clear c131
              try clear c131b0
              try clear c140
              try clear c140b0
              try clear c140b1
              try clear c143
              try clear c143b0
              try clear c143b1
              try clear c146
              try clear c146b0
              try clear c146b1
              try clear hx387_0
              try clear hx388_0
              try clear p2
              try clear p3
              try clear p32
              try clear p38
              try clear p387
              try clear p388
              try clear p6
              try clear p64
              try clear q3
              try clear q38
              try clear q387
              try clear q388
              obtain ⟨x7_1, rfl, HA, HK1, HO_5, HO_6, HB⟩ := hrel
              cases gk with
              | zero => exact absurd HA.out (by simp [tremaref02_Fold.l0])
              | succ k1 =>
               have H := HA.out
               clear HA
               simp only [tremaref02_Fold.l0] at H
               by_cases c153 : x7_1 < (y442.length : Int)
               ·rw [if_pos c153] at H
                have c153b0 : decide (x7_1 < (y442.length : Int)) = true := decide_eq_true c153
                clear c153
                by_cases c154 : 0 ≤ x7_1
                ·rw [if_pos c154] at H
                 have c154b0 : decide (0 ≤ x7_1) = true := decide_eq_true c154
                 clear c154
                 by_cases c155 : a0 = (rd y442 x7_1)
                 ·rw [if_pos c155] at H
                  have c155b0 : (a0 == (rd y442 x7_1)) = true := beq_iff_eq.mpr c155
                  have c155b1 : (a0 != (rd y442 x7_1)) = false := bne_eq_false_iff_eq.mpr c155
                  clear c155
                  by_cases c156 : x7_1 < (y445.length : Int)
                  ·rw [if_pos c156] at H
                   have c156b0 : decide (x7_1 < (y445.length : Int)) = true := decide_eq_true c156
                   clear c156
                   obtain ⟨y389, hy389⟩ : ∃ y_ : List Int, y_ = (([rd y445 x7_1] : List Int)) := ⟨_, rfl⟩
                   replace H : (some y389) = some r := by first | (rw [hy389]; with_reducible exact H) | (have H2_ := (Option.bind_some _ _).symm.trans H; rw [hy389]; with_reducible exact H2_) | (have H2_ := (Option.bind_some _ _).symm.trans H; with_reducible exact H2_) | with_reducible exact H | (rw [hy389]; exact H) | exact H
                   have Ny389 := Aside0.mk hy389
                   clear hy389
                   obtain rfl := Option.some.inj H
                   obtain ⟨Ao157, co157, eo157⟩ := Kd.R_slice HO_5.out
                   subst eo157
                   have p387 : 0 ≤ (x7_1 : Int) := of_decide_eq_true (by first | (with_reducible assumption) | assumption)
                   have q387 : x7_1 < (y442.length : Int) := of_decide_eq_true (by first | (with_reducible assumption) | assumption)
                   obtain ⟨ad387, e387, hx387_0⟩ := Kd.at_int (Kd.R_reads' HO_5.out).2.2 x7_1 p387 q387
                   cases e387
                   replace p387 := eq_true p387
                   replace q387 := eq_true q387
                   obtain ⟨Ao158, co158, eo158⟩ := Kd.R_slice HO_6.out
                   subst eo158
                   have p388 : 0 ≤ (x7_1 : Int) := of_decide_eq_true (by first | (with_reducible assumption) | assumption)
                   have q388 : x7_1 < (y445.length : Int) := of_decide_eq_true (by first | (with_reducible assumption) | assumption)
                   obtain ⟨ad388, e388, hx388_0⟩ := Kd.at_int (Kd.R_reads' HO_6.out).2.2 x7_1 p388 q388
                   cases e388
                   replace p388 := eq_true p388
                   replace q388 := eq_true q388
                   go_wp2_with (first | ((with_reducible refine gate_dst (N := 110) rfl ?_); refine Kd.R_lit (Kd.int .i32) _ 21 ?hg (N := 110) ?hd (xs := ([rd y445 x7_1] : List Int)) (inner := [.int .i32 (rd y445 x7_1)]) (ok := fun _ => True) (okp := fun _ => True) ?hr ?hp (fun _ hk => hk) trivial (Below.refl _ _) (Nat.le_refl _) (by simp) ?_; (case hd => rfl); (case hg => rfl); (case hr => first | (go_simp; done) | (go_simp; rfl)); (case hp => exact (Reps.one (show Kd.M (Kd.int .i32) _ _ _ (rd y445 x7_1) [.int .i32 (rd y445 x7_1)] from rfl) (Reps.none _ _))); intro v390 w159 ho160 hb hg_ hnew_; clear hg_ hnew_; (first | rw [← Ny389.out] at ho160 | (simp only [Int.reduceToNat] at ho160; rw [← Ny389.out] at ho160)); have n0_ := Aside0.mk (Kd.R_elder' (by (with_reducible repeat (first | apply Kd.R_alloc | apply Kd.R_drewN | apply Kd.R_drew)); exact HO_5.out) (Kd.R_base ho160) hb); have n1_ := Aside0.mk (Kd.R_elder' (by (with_reducible repeat (first | apply Kd.R_alloc | apply Kd.R_drewN | apply Kd.R_drew)); exact HO_6.out) (Kd.R_base ho160) hb); have n2_ := Aside0.mk (Kd.R_lower (Kd.R_new' (Kd.R_new' ho160 (Kd.R_lt (by (with_reducible repeat (first | apply Kd.R_alloc | apply Kd.R_drewN | apply Kd.R_drew)); exact HO_5.out))) (Kd.R_lt (by (with_reducible repeat (first | apply Kd.R_alloc | apply Kd.R_drewN | apply Kd.R_drew)); exact HO_6.out))) (below_size (by repeat (first | (with_reducible first | exact HB.out | apply below_alloc | apply pw_below_drewN | apply below_drew1) | exact HB.out)))); have n3_ := Aside0.mk (below_step (by repeat (first | (with_reducible first | exact HB.out | apply below_alloc | apply pw_below_drewN | apply below_drew1) | exact HB.out)) hb); clear HO_5; clear HO_6; clear HB; have HO_5 := n0_; have HO_6 := n1_; have HO391 := n2_; have HB := n3_; clear n0_ n1_ n2_ n3_; clear hb ho160))
                   go_ret
                   exact ⟨_, by first | rfl | (simp [errW_none, errW_some] <;> rfl) | (simp [*, errW_none, errW_some] <;> rfl), by (with_reducible repeat (first | apply Kd.R_alloc | apply Kd.R_drewN | apply Kd.R_drew)); exact Kd.R_mono HO391.out (fun _ hk => trivial), by repeat (first | (with_reducible first | exact HB.out | apply below_alloc | apply pw_below_drewN | apply below_drew1) | exact HB.out)⟩
                  ·rw [if_neg c156] at H
                   exact absurd H (by simp)
                 ·rw [if_neg c155] at H
                  have c155b0 : (a0 == (rd y442 x7_1)) = false := beq_eq_false_iff_ne.mpr c155
                  have c155b1 : (a0 != (rd y442 x7_1)) = true := bne_iff_ne.mpr c155
                  have H' := Aside0.mk H
                  clear H
                  obtain ⟨Ao161, co161, eo161⟩ := Kd.R_slice HO_5.out
                  subst eo161
                  have p387 : 0 ≤ (x7_1 : Int) := of_decide_eq_true (by first | (with_reducible assumption) | assumption)
                  have q387 : x7_1 < (y442.length : Int) := of_decide_eq_true (by first | (with_reducible assumption) | assumption)
                  obtain ⟨ad387, e387, hx387_0⟩ := Kd.at_int (Kd.R_reads' HO_5.out).2.2 x7_1 p387 q387
                  cases e387
                  replace p387 := eq_true p387
                  replace q387 := eq_true q387
                  go_wp2
                  go_roundg k1
                  case measure => have := HK1.out; omega
                  case rel => exact ⟨(wrap64 (x7_1 + 1)), (by first | rfl | (simp; done) | (simp [*]; done)), H', ⟨by have := HK1.out; omega⟩, ⟨by (with_reducible repeat (first | apply Kd.R_alloc | apply Kd.R_drewN | apply Kd.R_drew)); exact HO_5.out⟩, ⟨by (with_reducible repeat (first | apply Kd.R_alloc | apply Kd.R_drewN | apply Kd.R_drew)); exact HO_6.out⟩, ⟨by repeat (first | (with_reducible first | exact HB.out | apply below_alloc | apply pw_below_drewN | apply below_drew1) | exact HB.out)⟩⟩
                ·rw [if_neg c154] at H
                 exact absurd H (by simp)
               ·rw [if_neg c153] at H
                have c153b0 : decide (x7_1 < (y442.length : Int)) = false := decide_eq_false c153
                clear c153
                obtain ⟨y392, hy392⟩ : ∃ y_ : List Int, y_ = (([a0] : List Int)) := ⟨_, rfl⟩
                replace H : (some y392) = some r := by first | (rw [hy392]; with_reducible exact H) | (have H2_ := (Option.bind_some _ _).symm.trans H; rw [hy392]; with_reducible exact H2_) | (have H2_ := (Option.bind_some _ _).symm.trans H; with_reducible exact H2_) | with_reducible exact H | (rw [hy392]; exact H) | exact H
                have Ny392 := Aside0.mk hy392
                clear hy392
                obtain rfl := Option.some.inj H
                obtain ⟨Ao162, co162, eo162⟩ := Kd.R_slice HO_5.out
                subst eo162
                go_wp2_with (first | ((with_reducible refine gate_dst (N := 112) rfl ?_); refine Kd.R_lit (Kd.int .i32) _ 21 ?hg (N := 112) ?hd (xs := ([a0] : List Int)) (inner := [.int .i32 a0]) (ok := fun _ => True) (okp := fun _ => True) ?hr ?hp (fun _ hk => hk) trivial (Below.refl _ _) (Nat.le_refl _) (by simp) ?_; (case hd => rfl); (case hg => rfl); (case hr => first | (go_simp; done) | (go_simp; rfl)); (case hp => exact (Reps.one (show Kd.M (Kd.int .i32) _ _ _ a0 [.int .i32 a0] from rfl) (Reps.none _ _))); intro v393 w163 ho164 hb hg_ hnew_; clear hg_ hnew_; (first | rw [← Ny392.out] at ho164 | (simp only [Int.reduceToNat] at ho164; rw [← Ny392.out] at ho164)); have n0_ := Aside0.mk (Kd.R_elder' (by (with_reducible repeat (first | apply Kd.R_alloc | apply Kd.R_drewN | apply Kd.R_drew)); exact HO_5.out) (Kd.R_base ho164) hb); have n1_ := Aside0.mk (Kd.R_elder' (by (with_reducible repeat (first | apply Kd.R_alloc | apply Kd.R_drewN | apply Kd.R_drew)); exact HO_6.out) (Kd.R_base ho164) hb); have n2_ := Aside0.mk (Kd.R_lower (Kd.R_new' (Kd.R_new' ho164 (Kd.R_lt (by (with_reducible repeat (first | apply Kd.R_alloc | apply Kd.R_drewN | apply Kd.R_drew)); exact HO_5.out))) (Kd.R_lt (by (with_reducible repeat (first | apply Kd.R_alloc | apply Kd.R_drewN | apply Kd.R_drew)); exact HO_6.out))) (below_size (by repeat (first | (with_reducible first | exact HB.out | apply below_alloc | apply pw_below_drewN | apply below_drew1) | exact HB.out)))); have n3_ := Aside0.mk (below_step (by repeat (first | (with_reducible first | exact HB.out | apply below_alloc | apply pw_below_drewN | apply below_drew1) | exact HB.out)) hb); clear HO_5; clear HO_6; clear HB; have HO_5 := n0_; have HO_6 := n1_; have HO394 := n2_; have HB := n3_; clear n0_ n1_ n2_ n3_; clear hb ho164))
                go_ret
                exact ⟨_, by first | rfl | (simp [errW_none, errW_some] <;> rfl) | (simp [*, errW_none, errW_some] <;> rfl), by (with_reducible repeat (first | apply Kd.R_alloc | apply Kd.R_drewN | apply Kd.R_drew)); exact Kd.R_mono HO394.out (fun _ hk => trivial), by repeat (first | (with_reducible first | exact HB.out | apply below_alloc | apply pw_below_drewN | apply below_drew1) | exact HB.out)⟩

end Go.Proofs.YtfiihlgigeijcaaDoor.X
