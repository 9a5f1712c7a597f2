/-
  Several texts of this claim in one: what its law's proof uses.
-/
import Derived.Test.YtdambnclbpipdaaGreatDoorMMR1
import Derived.Test.YtdambnclbpipdaaGreatDoorMMR2
import Derived.Test.YtdambnclbpipdaaGreatDoorMMR3
import Derived.WalkSpells
namespace Go.Proofs.YtdambnclbpipdaaGreatDoor.X
open Go.RowKit Go.Proofs.YtdambnclbpipdaaGreatDoorW.PrintWords Go.Proofs.YtdambnclbpipdaaGreatDoorW.PrintLast Go.Proofs.YtdambnclbpipdaaGreatDoorW.PrintMore
attribute [local go_sem] max2_int min2_int max_two min_two max_three min_three max_four min_four   
set_option linter.unusedVariables false
set_option linter.unusedSimpArgs false
def ucd_listed.f (a0 : Int) : Option ((List (S225))) := if a0 = 6 then (some (([(⟨32, 32⟩ : S225), (⟨160, 160⟩ : S225), (⟨8192, 8202⟩ : S225), (⟨8232, 8233⟩ : S225), (⟨12288, 12288⟩ : S225)] : List (S225)))) else (if a0 = 3 then (some (([(⟨48, 57⟩ : S225), (⟨178, 179⟩ : S225), (⟨185, 185⟩ : S225), (⟨188, 190⟩ : S225), (⟨1632, 1641⟩ : S225), (⟨65296, 65305⟩ : S225)] : List (S225)))) else (if a0 = 2 then (some (([(⟨768, 879⟩ : S225), (⟨1155, 1161⟩ : S225), (⟨8400, 8412⟩ : S225), (⟨12441, 12442⟩ : S225)] : List (S225)))) else (if a0 = 4 then (some (([(⟨33, 35⟩ : S225), (⟨37, 42⟩ : S225), (⟨44, 47⟩ : S225), (⟨58, 59⟩ : S225), (⟨63, 64⟩ : S225), (⟨91, 93⟩ : S225), (⟨95, 95⟩ : S225), (⟨123, 123⟩ : S225), (⟨125, 125⟩ : S225), (⟨161, 161⟩ : S225), (⟨167, 167⟩ : S225), (⟨171, 171⟩ : S225), (⟨182, 183⟩ : S225), (⟨187, 187⟩ : S225), (⟨191, 191⟩ : S225), (⟨903, 903⟩ : S225), (⟨8208, 8231⟩ : S225), (⟨8240, 8259⟩ : S225), (⟨12289, 12291⟩ : S225)] : List (S225)))) else (if a0 = 5 then (some (([(⟨36, 36⟩ : S225), (⟨43, 43⟩ : S225), (⟨60, 62⟩ : S225), (⟨94, 94⟩ : S225), (⟨96, 96⟩ : S225), (⟨124, 124⟩ : S225), (⟨126, 126⟩ : S225), (⟨162, 166⟩ : S225), (⟨168, 169⟩ : S225), (⟨172, 172⟩ : S225), (⟨174, 177⟩ : S225), (⟨180, 180⟩ : S225), (⟨184, 184⟩ : S225), (⟨215, 215⟩ : S225), (⟨247, 247⟩ : S225), (⟨8352, 8384⟩ : S225), (⟨8592, 8959⟩ : S225), (⟨65533, 65533⟩ : S225), (⟨128512, 128591⟩ : S225)] : List (S225)))) else (if a0 = 1 then (some (([(⟨65, 90⟩ : S225), (⟨97, 122⟩ : S225), (⟨170, 170⟩ : S225), (⟨181, 181⟩ : S225), (⟨186, 186⟩ : S225), (⟨192, 214⟩ : S225), (⟨216, 246⟩ : S225), (⟨248, 687⟩ : S225), (⟨902, 902⟩ : S225), (⟨904, 1153⟩ : S225), (⟨1162, 1327⟩ : S225), (⟨4352, 4607⟩ : S225), (⟨7680, 8124⟩ : S225), (⟨8486, 8486⟩ : S225), (⟨8490, 8491⟩ : S225), (⟨12353, 12438⟩ : S225), (⟨12449, 12538⟩ : S225), (⟨19968, 40959⟩ : S225), (⟨44032, 55203⟩ : S225)] : List (S225)))) else (some ([] : List (S225))))))))
set_option maxHeartbeats 8000000 in
set_option maxRecDepth 100000 in
theorem ucd_listed.calls (a0 : Int) (r : List (S225)) (w : World) (h : ucd_listed.f a0 = some r) :
  Calls Tryz.prog 175 #[.int .i64 a0] w fun e w' => ∃ v0_ : Value, e = .returned (v0_) ∧ Kd.R k225 225 w' w.heap.size (fun _ => True) v0_ r ∧ Below w.heap.size w w' := by
 have hu225 := Tryz.underlying225
 have HB := Aside0.mk (Below.refl w.heap.size w)
 have H : (if a0 = 6 then (some (([(⟨32, 32⟩ : S225), (⟨160, 160⟩ : S225), (⟨8192, 8202⟩ : S225), (⟨8232, 8233⟩ : S225), (⟨12288, 12288⟩ : S225)] : List (S225)))) else (if a0 = 3 then (some (([(⟨48, 57⟩ : S225), (⟨178, 179⟩ : S225), (⟨185, 185⟩ : S225), (⟨188, 190⟩ : S225), (⟨1632, 1641⟩ : S225), (⟨65296, 65305⟩ : S225)] : List (S225)))) else (if a0 = 2 then (some (([(⟨768, 879⟩ : S225), (⟨1155, 1161⟩ : S225), (⟨8400, 8412⟩ : S225), (⟨12441, 12442⟩ : S225)] : List (S225)))) else (if a0 = 4 then (some (([(⟨33, 35⟩ : S225), (⟨37, 42⟩ : S225), (⟨44, 47⟩ : S225), (⟨58, 59⟩ : S225), (⟨63, 64⟩ : S225), (⟨91, 93⟩ : S225), (⟨95, 95⟩ : S225), (⟨123, 123⟩ : S225), (⟨125, 125⟩ : S225), (⟨161, 161⟩ : S225), (⟨167, 167⟩ : S225), (⟨171, 171⟩ : S225), (⟨182, 183⟩ : S225), (⟨187, 187⟩ : S225), (⟨191, 191⟩ : S225), (⟨903, 903⟩ : S225), (⟨8208, 8231⟩ : S225), (⟨8240, 8259⟩ : S225), (⟨12289, 12291⟩ : S225)] : List (S225)))) else (if a0 = 5 then (some (([(⟨36, 36⟩ : S225), (⟨43, 43⟩ : S225), (⟨60, 62⟩ : S225), (⟨94, 94⟩ : S225), (⟨96, 96⟩ : S225), (⟨124, 124⟩ : S225), (⟨126, 126⟩ : S225), (⟨162, 166⟩ : S225), (⟨168, 169⟩ : S225), (⟨172, 172⟩ : S225), (⟨174, 177⟩ : S225), (⟨180, 180⟩ : S225), (⟨184, 184⟩ : S225), (⟨215, 215⟩ : S225), (⟨247, 247⟩ : S225), (⟨8352, 8384⟩ : S225), (⟨8592, 8959⟩ : S225), (⟨65533, 65533⟩ : S225), (⟨128512, 128591⟩ : S225)] : List (S225)))) else (if a0 = 1 then (some (([(⟨65, 90⟩ : S225), (⟨97, 122⟩ : S225), (⟨170, 170⟩ : S225), (⟨181, 181⟩ : S225), (⟨186, 186⟩ : S225), (⟨192, 214⟩ : S225), (⟨216, 246⟩ : S225), (⟨248, 687⟩ : S225), (⟨902, 902⟩ : S225), (⟨904, 1153⟩ : S225), (⟨1162, 1327⟩ : S225), (⟨4352, 4607⟩ : S225), (⟨7680, 8124⟩ : S225), (⟨8486, 8486⟩ : S225), (⟨8490, 8491⟩ : S225), (⟨12353, 12438⟩ : S225), (⟨12449, 12538⟩ : S225), (⟨19968, 40959⟩ : S225), (⟨44032, 55203⟩ : S225)] : List (S225)))) else (some ([] : List (S225))))))))) = some r := h
 clear h
 by_cases c2 : a0 = 6
 ·rw [if_pos c2] at H
  have c2b0 : (a0 == 6) = true := beq_iff_eq.mpr c2
  have c2b1 : (a0 != 6) = false := bne_eq_false_iff_eq.mpr c2
  clear c2
  obtain ⟨y103, hy103⟩ : ∃ y_ : List (S225), y_ = (([(⟨32, 32⟩ : S225), (⟨160, 160⟩ : S225), (⟨8192, 8202⟩ : S225), (⟨8232, 8233⟩ : S225), (⟨12288, 12288⟩ : S225)] : List (S225))) := ⟨_, rfl⟩
  replace H : (some y103) = some r := by first | (rw [hy103]; with_reducible exact H) | (have H2_ := (Option.bind_some _ _).symm.trans H; rw [hy103]; with_reducible exact H2_) | (have H2_ := (Option.bind_some _ _).symm.trans H; with_reducible exact H2_) | with_reducible exact H | (rw [hy103]; exact H) | exact H
  have Ny103 := Aside0.mk hy103
  clear hy103
  obtain rfl := Option.some.inj H
  go_enter Tryz.func175, Tryz.ntmps175
  go_wp2_with (first | ((with_reducible refine gate_dst (N := 11) rfl ?_); refine Kd.R_lit k225 _ 225 ?hg (N := 11) ?hd (xs := ([(⟨32, 32⟩ : S225), (⟨160, 160⟩ : S225), (⟨8192, 8202⟩ : S225), (⟨8232, 8233⟩ : S225), (⟨12288, 12288⟩ : S225)] : List (S225))) (inner := [.int .i32 32, .int .i32 32, .int .i32 160, .int .i32 160, .int .i32 8192, .int .i32 8202, .int .i32 8232, .int .i32 8233, .int .i32 12288, .int .i32 12288]) (ok := fun _ => True) (okp := fun _ => True) ?hr ?hp (fun _ hk => hk) trivial (Below.refl _ _) (Nat.le_refl _) (by simp) ?_; (case hd => rfl); (case hg => rfl); (case hr => first | (go_simp; done) | (go_simp; rfl)); (case hp => exact (Reps.c2 (show Kd.M k225 _ _ _ (⟨32, 32⟩ : S225) [.int .i32 32, .int .i32 32] from (k225_mkM _ _ _ (⟨32, 32⟩ : S225) )) (Reps.c2 (show Kd.M k225 _ _ _ (⟨160, 160⟩ : S225) [.int .i32 160, .int .i32 160] from (k225_mkM _ _ _ (⟨160, 160⟩ : S225) )) (Reps.c2 (show Kd.M k225 _ _ _ (⟨8192, 8202⟩ : S225) [.int .i32 8192, .int .i32 8202] from (k225_mkM _ _ _ (⟨8192, 8202⟩ : S225) )) (Reps.c2 (show Kd.M k225 _ _ _ (⟨8232, 8233⟩ : S225) [.int .i32 8232, .int .i32 8233] from (k225_mkM _ _ _ (⟨8232, 8233⟩ : S225) )) (Reps.c2 (show Kd.M k225 _ _ _ (⟨12288, 12288⟩ : S225) [.int .i32 12288, .int .i32 12288] from (k225_mkM _ _ _ (⟨12288, 12288⟩ : S225) )) (Reps.none _ _))))))); intro v104 w3 ho4 hb hg_ hnew_; clear hg_ hnew_; (first | rw [← Ny103.out] at ho4 | (simp only [Int.reduceToNat] at ho4; rw [← Ny103.out] at ho4)); have n0_ := Aside0.mk (Kd.R_lower ho4 (below_size (by repeat (first | (with_reducible first | exact HB.out | apply below_alloc | apply pw_below_drewN | apply below_drew1) | exact HB.out)))); have n1_ := Aside0.mk (below_step (by repeat (first | (with_reducible first | exact HB.out | apply below_alloc | apply pw_below_drewN | apply below_drew1) | exact HB.out)) hb); clear HB; have HO105 := n0_; have HB := n1_; clear n0_ n1_; clear hb ho4))
  go_ret
  exact ⟨_, by first | rfl | (simp [errW_none, errW_some] <;> rfl) | (simp [*, errW_none, errW_some] <;> rfl), by (with_reducible repeat (first | apply Kd.R_alloc | apply Kd.R_drewN | apply Kd.R_drew)); exact HO105.out, by repeat (first | (with_reducible first | exact HB.out | apply below_alloc | apply pw_below_drewN | apply below_drew1) | exact HB.out)⟩
 ·rw [if_neg c2] at H
  have c2b0 : (a0 == 6) = false := beq_eq_false_iff_ne.mpr c2
  have c2b1 : (a0 != 6) = true := bne_iff_ne.mpr c2
  by_cases c5 : a0 = 3
  ·rw [if_pos c5] at H
   have c5b0 : (a0 == 3) = true := beq_iff_eq.mpr c5
   have c5b1 : (a0 != 3) = false := bne_eq_false_iff_eq.mpr c5
   clear c5
   obtain ⟨y106, hy106⟩ : ∃ y_ : List (S225), y_ = (([(⟨48, 57⟩ : S225), (⟨178, 179⟩ : S225), (⟨185, 185⟩ : S225), (⟨188, 190⟩ : S225), (⟨1632, 1641⟩ : S225), (⟨65296, 65305⟩ : S225)] : List (S225))) := ⟨_, rfl⟩
   replace H : (some y106) = some r := by first | (rw [hy106]; with_reducible exact H) | (have H2_ := (Option.bind_some _ _).symm.trans H; rw [hy106]; with_reducible exact H2_) | (have H2_ := (Option.bind_some _ _).symm.trans H; with_reducible exact H2_) | with_reducible exact H | (rw [hy106]; exact H) | exact H
   have Ny106 := Aside0.mk hy106
   clear hy106
   obtain rfl := Option.some.inj H
   go_enter Tryz.func175, Tryz.ntmps175
   go_wp2_with (first | ((with_reducible refine gate_dst (N := 20) rfl ?_); refine Kd.R_lit k225 _ 225 ?hg (N := 20) ?hd (xs := ([(⟨48, 57⟩ : S225), (⟨178, 179⟩ : S225), (⟨185, 185⟩ : S225), (⟨188, 190⟩ : S225), (⟨1632, 1641⟩ : S225), (⟨65296, 65305⟩ : S225)] : List (S225))) (inner := [.int .i32 48, .int .i32 57, .int .i32 178, .int .i32 179, .int .i32 185, .int .i32 185, .int .i32 188, .int .i32 190, .int .i32 1632, .int .i32 1641, .int .i32 65296, .int .i32 65305]) (ok := fun _ => True) (okp := fun _ => True) ?hr ?hp (fun _ hk => hk) trivial (Below.refl _ _) (Nat.le_refl _) (by simp) ?_; (case hd => rfl); (case hg => rfl); (case hr => first | (go_simp; done) | (go_simp; rfl)); (case hp => exact (Reps.c2 (show Kd.M k225 _ _ _ (⟨48, 57⟩ : S225) [.int .i32 48, .int .i32 57] from (k225_mkM _ _ _ (⟨48, 57⟩ : S225) )) (Reps.c2 (show Kd.M k225 _ _ _ (⟨178, 179⟩ : S225) [.int .i32 178, .int .i32 179] from (k225_mkM _ _ _ (⟨178, 179⟩ : S225) )) (Reps.c2 (show Kd.M k225 _ _ _ (⟨185, 185⟩ : S225) [.int .i32 185, .int .i32 185] from (k225_mkM _ _ _ (⟨185, 185⟩ : S225) )) (Reps.c2 (show Kd.M k225 _ _ _ (⟨188, 190⟩ : S225) [.int .i32 188, .int .i32 190] from (k225_mkM _ _ _ (⟨188, 190⟩ : S225) )) (Reps.c2 (show Kd.M k225 _ _ _ (⟨1632, 1641⟩ : S225) [.int .i32 1632, .int .i32 1641] from (k225_mkM _ _ _ (⟨1632, 1641⟩ : S225) )) (Reps.c2 (show Kd.M k225 _ _ _ (⟨65296, 65305⟩ : S225) [.int .i32 65296, .int .i32 65305] from (k225_mkM _ _ _ (⟨65296, 65305⟩ : S225) )) (Reps.none _ _)))))))); intro v107 w6 ho7 hb hg_ hnew_; clear hg_ hnew_; (first | rw [← Ny106.out] at ho7 | (simp only [Int.reduceToNat] at ho7; rw [← Ny106.out] at ho7)); have n0_ := Aside0.mk (Kd.R_lower ho7 (below_size (by repeat (first | (with_reducible first | exact HB.out | apply below_alloc | apply pw_below_drewN | apply below_drew1) | exact HB.out)))); have n1_ := Aside0.mk (below_step (by repeat (first | (with_reducible first | exact HB.out | apply below_alloc | apply pw_below_drewN | apply below_drew1) | exact HB.out)) hb); clear HB; have HO108 := n0_; have HB := n1_; clear n0_ n1_; clear hb ho7))
   go_ret
   exact ⟨_, by first | rfl | (simp [errW_none, errW_some] <;> rfl) | (simp [*, errW_none, errW_some] <;> rfl), by (with_reducible repeat (first | apply Kd.R_alloc | apply Kd.R_drewN | apply Kd.R_drew)); exact HO108.out, by repeat (first | (with_reducible first | exact HB.out | apply below_alloc | apply pw_below_drewN | apply below_drew1) | exact HB.out)⟩
  ·rw [if_neg c5] at H
   have c5b0 : (a0 == 3) = false := beq_eq_false_iff_ne.mpr c5
   have c5b1 : (a0 != 3) = true := bne_iff_ne.mpr c5
   by_cases c8 : a0 = 2
   ·rw [if_pos c8] at H
    have c8b0 : (a0 == 2) = true := beq_iff_eq.mpr c8
    have c8b1 : (a0 != 2) = false := bne_eq_false_iff_eq.mpr c8
    clear c8
    obtain ⟨y109, hy109⟩ : ∃ y_ : List (S225), y_ = (([(⟨768, 879⟩ : S225), (⟨1155, 1161⟩ : S225), (⟨8400, 8412⟩ : S225), (⟨12441, 12442⟩ : S225)] : List (S225))) := ⟨_, rfl⟩
    replace H : (some y109) = some r := by first | (rw [hy109]; with_reducible exact H) | (have H2_ := (Option.bind_some _ _).symm.trans H; rw [hy109]; with_reducible exact H2_) | (have H2_ := (Option.bind_some _ _).symm.trans H; with_reducible exact H2_) | with_reducible exact H | (rw [hy109]; exact H) | exact H
    have Ny109 := Aside0.mk hy109
    clear hy109
    obtain rfl := Option.some.inj H
    go_enter Tryz.func175, Tryz.ntmps175
    go_wp2_with (first | ((with_reducible refine gate_dst (N := 27) rfl ?_); refine Kd.R_lit k225 _ 225 ?hg (N := 27) ?hd (xs := ([(⟨768, 879⟩ : S225), (⟨1155, 1161⟩ : S225), (⟨8400, 8412⟩ : S225), (⟨12441, 12442⟩ : S225)] : List (S225))) (inner := [.int .i32 768, .int .i32 879, .int .i32 1155, .int .i32 1161, .int .i32 8400, .int .i32 8412, .int .i32 12441, .int .i32 12442]) (ok := fun _ => True) (okp := fun _ => True) ?hr ?hp (fun _ hk => hk) trivial (Below.refl _ _) (Nat.le_refl _) (by simp) ?_; (case hd => rfl); (case hg => rfl); (case hr => first | (go_simp; done) | (go_simp; rfl)); (case hp => exact (Reps.c2 (show Kd.M k225 _ _ _ (⟨768, 879⟩ : S225) [.int .i32 768, .int .i32 879] from (k225_mkM _ _ _ (⟨768, 879⟩ : S225) )) (Reps.c2 (show Kd.M k225 _ _ _ (⟨1155, 1161⟩ : S225) [.int .i32 1155, .int .i32 1161] from (k225_mkM _ _ _ (⟨1155, 1161⟩ : S225) )) (Reps.c2 (show Kd.M k225 _ _ _ (⟨8400, 8412⟩ : S225) [.int .i32 8400, .int .i32 8412] from (k225_mkM _ _ _ (⟨8400, 8412⟩ : S225) )) (Reps.c2 (show Kd.M k225 _ _ _ (⟨12441, 12442⟩ : S225) [.int .i32 12441, .int .i32 12442] from (k225_mkM _ _ _ (⟨12441, 12442⟩ : S225) )) (Reps.none _ _)))))); intro v110 w9 ho10 hb hg_ hnew_; clear hg_ hnew_; (first | rw [← Ny109.out] at ho10 | (simp only [Int.reduceToNat] at ho10; rw [← Ny109.out] at ho10)); have n0_ := Aside0.mk (Kd.R_lower ho10 (below_size (by repeat (first | (with_reducible first | exact HB.out | apply below_alloc | apply pw_below_drewN | apply below_drew1) | exact HB.out)))); have n1_ := Aside0.mk (below_step (by repeat (first | (with_reducible first | exact HB.out | apply below_alloc | apply pw_below_drewN | apply below_drew1) | exact HB.out)) hb); clear HB; have HO111 := n0_; have HB := n1_; clear n0_ n1_; clear hb ho10))
    go_ret
    exact ⟨_, by first | rfl | (simp [errW_none, errW_some] <;> rfl) | (simp [*, errW_none, errW_some] <;> rfl), by (with_reducible repeat (first | apply Kd.R_alloc | apply Kd.R_drewN | apply Kd.R_drew)); exact HO111.out, by repeat (first | (with_reducible first | exact HB.out | apply below_alloc | apply pw_below_drewN | apply below_drew1) | exact HB.out)⟩
   ·rw [if_neg c8] at H
    have c8b0 : (a0 == 2) = false := beq_eq_false_iff_ne.mpr c8
    have c8b1 : (a0 != 2) = true := bne_iff_ne.mpr c8
    by_cases c11 : a0 = 4
    ·rw [if_pos c11] at H
     have c11b0 : (a0 == 4) = true := beq_iff_eq.mpr c11
     have c11b1 : (a0 != 4) = false := bne_eq_false_iff_eq.mpr c11
     clear c11
     obtain ⟨y112, hy112⟩ : ∃ y_ : List (S225), y_ = (([(⟨33, 35⟩ : S225), (⟨37, 42⟩ : S225), (⟨44, 47⟩ : S225), (⟨58, 59⟩ : S225), (⟨63, 64⟩ : S225), (⟨91, 93⟩ : S225), (⟨95, 95⟩ : S225), (⟨123, 123⟩ : S225), (⟨125, 125⟩ : S225), (⟨161, 161⟩ : S225), (⟨167, 167⟩ : S225), (⟨171, 171⟩ : S225), (⟨182, 183⟩ : S225), (⟨187, 187⟩ : S225), (⟨191, 191⟩ : S225), (⟨903, 903⟩ : S225), (⟨8208, 8231⟩ : S225), (⟨8240, 8259⟩ : S225), (⟨12289, 12291⟩ : S225)] : List (S225))) := ⟨_, rfl⟩
     replace H : (some y112) = some r := by first | (rw [hy112]; with_reducible exact H) | (have H2_ := (Option.bind_some _ _).symm.trans H; rw [hy112]; with_reducible exact H2_) | (have H2_ := (Option.bind_some _ _).symm.trans H; with_reducible exact H2_) | with_reducible exact H | (rw [hy112]; exact H) | exact H
     have Ny112 := Aside0.mk hy112
     clear hy112
     obtain rfl := Option.some.inj H
     go_enter Tryz.func175, Tryz.ntmps175
     go_wp2_with (first | ((with_reducible refine gate_dst (N := 49) rfl ?_); refine Kd.R_lit k225 _ 225 ?hg (N := 49) ?hd (xs := ([(⟨33, 35⟩ : S225), (⟨37, 42⟩ : S225), (⟨44, 47⟩ : S225), (⟨58, 59⟩ : S225), (⟨63, 64⟩ : S225), (⟨91, 93⟩ : S225), (⟨95, 95⟩ : S225), (⟨123, 123⟩ : S225), (⟨125, 125⟩ : S225), (⟨161, 161⟩ : S225), (⟨167, 167⟩ : S225), (⟨171, 171⟩ : S225), (⟨182, 183⟩ : S225), (⟨187, 187⟩ : S225), (⟨191, 191⟩ : S225), (⟨903, 903⟩ : S225), (⟨8208, 8231⟩ : S225), (⟨8240, 8259⟩ : S225), (⟨12289, 12291⟩ : S225)] : List (S225))) (inner := [.int .i32 33, .int .i32 35, .int .i32 37, .int .i32 42, .int .i32 44, .int .i32 47, .int .i32 58, .int .i32 59, .int .i32 63, .int .i32 64, .int .i32 91, .int .i32 93, .int .i32 95, .int .i32 95, .int .i32 123, .int .i32 123, .int .i32 125, .int .i32 125, .int .i32 161, .int .i32 161, .int .i32 167, .int .i32 167, .int .i32 171, .int .i32 171, .int .i32 182, .int .i32 183, .int .i32 187, .int .i32 187, .int .i32 191, .int .i32 191, .int .i32 903, .int .i32 903, .int .i32 8208, .int .i32 8231, .int .i32 8240, .int .i32 8259, .int .i32 12289, .int .i32 12291]) (ok := fun _ => True) (okp := fun _ => True) ?hr ?hp (fun _ hk => hk) trivial (Below.refl _ _) (Nat.le_refl _) (by simp) ?_; (case hd => rfl); (case hg => rfl); (case hr => first | (go_simp; done) | (go_simp; rfl)); (case hp => exact (Reps.c2 (show Kd.M k225 _ _ _ (⟨33, 35⟩ : S225) [.int .i32 33, .int .i32 35] from (k225_mkM _ _ _ (⟨33, 35⟩ : S225) )) (Reps.c2 (show Kd.M k225 _ _ _ (⟨37, 42⟩ : S225) [.int .i32 37, .int .i32 42] from (k225_mkM _ _ _ (⟨37, 42⟩ : S225) )) (Reps.c2 (show Kd.M k225 _ _ _ (⟨44, 47⟩ : S225) [.int .i32 44, .int .i32 47] from (k225_mkM _ _ _ (⟨44, 47⟩ : S225) )) (Reps.c2 (show Kd.M k225 _ _ _ (⟨58, 59⟩ : S225) [.int .i32 58, .int .i32 59] from (k225_mkM _ _ _ (⟨58, 59⟩ : S225) )) (Reps.c2 (show Kd.M k225 _ _ _ (⟨63, 64⟩ : S225) [.int .i32 63, .int .i32 64] from (k225_mkM _ _ _ (⟨63, 64⟩ : S225) )) (Reps.c2 (show Kd.M k225 _ _ _ (⟨91, 93⟩ : S225) [.int .i32 91, .int .i32 93] from (k225_mkM _ _ _ (⟨91, 93⟩ : S225) )) (Reps.c2 (show Kd.M k225 _ _ _ (⟨95, 95⟩ : S225) [.int .i32 95, .int .i32 95] from (k225_mkM _ _ _ (⟨95, 95⟩ : S225) )) (Reps.c2 (show Kd.M k225 _ _ _ (⟨123, 123⟩ : S225) [.int .i32 123, .int .i32 123] from (k225_mkM _ _ _ (⟨123, 123⟩ : S225) )) (Reps.c2 (show Kd.M k225 _ _ _ (⟨125, 125⟩ : S225) [.int .i32 125, .int .i32 125] from (k225_mkM _ _ _ (⟨125, 125⟩ : S225) )) (Reps.c2 (show Kd.M k225 _ _ _ (⟨161, 161⟩ : S225) [.int .i32 161, .int .i32 161] from (k225_mkM _ _ _ (⟨161, 161⟩ : S225) )) (Reps.c2 (show Kd.M k225 _ _ _ (⟨167, 167⟩ : S225) [.int .i32 167, .int .i32 167] from (k225_mkM _ _ _ (⟨167, 167⟩ : S225) )) (Reps.c2 (show Kd.M k225 _ _ _ (⟨171, 171⟩ : S225) [.int .i32 171, .int .i32 171] from (k225_mkM _ _ _ (⟨171, 171⟩ : S225) )) (Reps.c2 (show Kd.M k225 _ _ _ (⟨182, 183⟩ : S225) [.int .i32 182, .int .i32 183] from (k225_mkM _ _ _ (⟨182, 183⟩ : S225) )) (Reps.c2 (show Kd.M k225 _ _ _ (⟨187, 187⟩ : S225) [.int .i32 187, .int .i32 187] from (k225_mkM _ _ _ (⟨187, 187⟩ : S225) )) (Reps.c2 (show Kd.M k225 _ _ _ (⟨191, 191⟩ : S225) [.int .i32 191, .int .i32 191] from (k225_mkM _ _ _ (⟨191, 191⟩ : S225) )) (Reps.c2 (show Kd.M k225 _ _ _ (⟨903, 903⟩ : S225) [.int .i32 903, .int .i32 903] from (k225_mkM _ _ _ (⟨903, 903⟩ : S225) )) (Reps.c2 (show Kd.M k225 _ _ _ (⟨8208, 8231⟩ : S225) [.int .i32 8208, .int .i32 8231] from (k225_mkM _ _ _ (⟨8208, 8231⟩ : S225) )) (Reps.c2 (show Kd.M k225 _ _ _ (⟨8240, 8259⟩ : S225) [.int .i32 8240, .int .i32 8259] from (k225_mkM _ _ _ (⟨8240, 8259⟩ : S225) )) (Reps.c2 (show Kd.M k225 _ _ _ (⟨12289, 12291⟩ : S225) [.int .i32 12289, .int .i32 12291] from (k225_mkM _ _ _ (⟨12289, 12291⟩ : S225) )) (Reps.none _ _))))))))))))))))))))); intro v113 w12 ho13 hb hg_ hnew_; clear hg_ hnew_; (first | rw [← Ny112.out] at ho13 | (simp only [Int.reduceToNat] at ho13; rw [← Ny112.out] at ho13)); have n0_ := Aside0.mk (Kd.R_lower ho13 (below_size (by repeat (first | (with_reducible first | exact HB.out | apply below_alloc | apply pw_below_drewN | apply below_drew1) | exact HB.out)))); have n1_ := Aside0.mk (below_step (by repeat (first | (with_reducible first | exact HB.out | apply below_alloc | apply pw_below_drewN | apply below_drew1) | exact HB.out)) hb); clear HB; have HO114 := n0_; have HB := n1_; clear n0_ n1_; clear hb ho13))
     go_ret
     exact ⟨_, by first | rfl | (simp [errW_none, errW_some] <;> rfl) | (simp [*, errW_none, errW_some] <;> rfl), by (with_reducible repeat (first | apply Kd.R_alloc | apply Kd.R_drewN | apply Kd.R_drew)); exact HO114.out, by repeat (first | (with_reducible first | exact HB.out | apply below_alloc | apply pw_below_drewN | apply below_drew1) | exact HB.out)⟩
    ·rw [if_neg c11] at H
     have c11b0 : (a0 == 4) = false := beq_eq_false_iff_ne.mpr c11
     have c11b1 : (a0 != 4) = true := bne_iff_ne.mpr c11
     by_cases c14 : a0 = 5
     ·rw [if_pos c14] at H
      have c14b0 : (a0 == 5) = true := beq_iff_eq.mpr c14
      have c14b1 : (a0 != 5) = false := bne_eq_false_iff_eq.mpr c14
      clear c14
      obtain ⟨y115, hy115⟩ : ∃ y_ : List (S225), y_ = (([(⟨36, 36⟩ : S225), (⟨43, 43⟩ : S225), (⟨60, 62⟩ : S225), (⟨94, 94⟩ : S225), (⟨96, 96⟩ : S225), (⟨124, 124⟩ : S225), (⟨126, 126⟩ : S225), (⟨162, 166⟩ : S225), (⟨168, 169⟩ : S225), (⟨172, 172⟩ : S225), (⟨174, 177⟩ : S225), (⟨180, 180⟩ : S225), (⟨184, 184⟩ : S225), (⟨215, 215⟩ : S225), (⟨247, 247⟩ : S225), (⟨8352, 8384⟩ : S225), (⟨8592, 8959⟩ : S225), (⟨65533, 65533⟩ : S225), (⟨128512, 128591⟩ : S225)] : List (S225))) := ⟨_, rfl⟩
      replace H : (some y115) = some r := by first | (rw [hy115]; with_reducible exact H) | (have H2_ := (Option.bind_some _ _).symm.trans H; rw [hy115]; with_reducible exact H2_) | (have H2_ := (Option.bind_some _ _).symm.trans H; with_reducible exact H2_) | with_reducible exact H | (rw [hy115]; exact H) | exact H
      have Ny115 := Aside0.mk hy115
      clear hy115
      obtain rfl := Option.some.inj H
      go_enter Tryz.func175, Tryz.ntmps175
      go_wp2_with (first | ((with_reducible refine gate_dst (N := 71) rfl ?_); refine Kd.R_lit k225 _ 225 ?hg (N := 71) ?hd (xs := ([(⟨36, 36⟩ : S225), (⟨43, 43⟩ : S225), (⟨60, 62⟩ : S225), (⟨94, 94⟩ : S225), (⟨96, 96⟩ : S225), (⟨124, 124⟩ : S225), (⟨126, 126⟩ : S225), (⟨162, 166⟩ : S225), (⟨168, 169⟩ : S225), (⟨172, 172⟩ : S225), (⟨174, 177⟩ : S225), (⟨180, 180⟩ : S225), (⟨184, 184⟩ : S225), (⟨215, 215⟩ : S225), (⟨247, 247⟩ : S225), (⟨8352, 8384⟩ : S225), (⟨8592, 8959⟩ : S225), (⟨65533, 65533⟩ : S225), (⟨128512, 128591⟩ : S225)] : List (S225))) (inner := [.int .i32 36, .int .i32 36, .int .i32 43, .int .i32 43, .int .i32 60, .int .i32 62, .int .i32 94, .int .i32 94, .int .i32 96, .int .i32 96, .int .i32 124, .int .i32 124, .int .i32 126, .int .i32 126, .int .i32 162, .int .i32 166, .int .i32 168, .int .i32 169, .int .i32 172, .int .i32 172, .int .i32 174, .int .i32 177, .int .i32 180, .int .i32 180, .int .i32 184, .int .i32 184, .int .i32 215, .int .i32 215, .int .i32 247, .int .i32 247, .int .i32 8352, .int .i32 8384, .int .i32 8592, .int .i32 8959, .int .i32 65533, .int .i32 65533, .int .i32 128512, .int .i32 128591]) (ok := fun _ => True) (okp := fun _ => True) ?hr ?hp (fun _ hk => hk) trivial (Below.refl _ _) (Nat.le_refl _) (by simp) ?_; (case hd => rfl); (case hg => rfl); (case hr => first | (go_simp; done) | (go_simp; rfl)); (case hp => exact (Reps.c2 (show Kd.M k225 _ _ _ (⟨36, 36⟩ : S225) [.int .i32 36, .int .i32 36] from (k225_mkM _ _ _ (⟨36, 36⟩ : S225) )) (Reps.c2 (show Kd.M k225 _ _ _ (⟨43, 43⟩ : S225) [.int .i32 43, .int .i32 43] from (k225_mkM _ _ _ (⟨43, 43⟩ : S225) )) (Reps.c2 (show Kd.M k225 _ _ _ (⟨60, 62⟩ : S225) [.int .i32 60, .int .i32 62] from (k225_mkM _ _ _ (⟨60, 62⟩ : S225) )) (Reps.c2 (show Kd.M k225 _ _ _ (⟨94, 94⟩ : S225) [.int .i32 94, .int .i32 94] from (k225_mkM _ _ _ (⟨94, 94⟩ : S225) )) (Reps.c2 (show Kd.M k225 _ _ _ (⟨96, 96⟩ : S225) [.int .i32 96, .int .i32 96] from (k225_mkM _ _ _ (⟨96, 96⟩ : S225) )) (Reps.c2 (show Kd.M k225 _ _ _ (⟨124, 124⟩ : S225) [.int .i32 124, .int .i32 124] from (k225_mkM _ _ _ (⟨124, 124⟩ : S225) )) (Reps.c2 (show Kd.M k225 _ _ _ (⟨126, 126⟩ : S225) [.int .i32 126, .int .i32 126] from (k225_mkM _ _ _ (⟨126, 126⟩ : S225) )) (Reps.c2 (show Kd.M k225 _ _ _ (⟨162, 166⟩ : S225) [.int .i32 162, .int .i32 166] from (k225_mkM _ _ _ (⟨162, 166⟩ : S225) )) (Reps.c2 (show Kd.M k225 _ _ _ (⟨168, 169⟩ : S225) [.int .i32 168, .int .i32 169] from (k225_mkM _ _ _ (⟨168, 169⟩ : S225) )) (Reps.c2 (show Kd.M k225 _ _ _ (⟨172, 172⟩ : S225) [.int .i32 172, .int .i32 172] from (k225_mkM _ _ _ (⟨172, 172⟩ : S225) )) (Reps.c2 (show Kd.M k225 _ _ _ (⟨174, 177⟩ : S225) [.int .i32 174, .int .i32 177] from (k225_mkM _ _ _ (⟨174, 177⟩ : S225) )) (Reps.c2 (show Kd.M k225 _ _ _ (⟨180, 180⟩ : S225) [.int .i32 180, .int .i32 180] from (k225_mkM _ _ _ (⟨180, 180⟩ : S225) )) (Reps.c2 (show Kd.M k225 _ _ _ (⟨184, 184⟩ : S225) [.int .i32 184, .int .i32 184] from (k225_mkM _ _ _ (⟨184, 184⟩ : S225) )) (Reps.c2 (show Kd.M k225 _ _ _ (⟨215, 215⟩ : S225) [.int .i32 215, .int .i32 215] from (k225_mkM _ _ _ (⟨215, 215⟩ : S225) )) (Reps.c2 (show Kd.M k225 _ _ _ (⟨247, 247⟩ : S225) [.int .i32 247, .int .i32 247] from (k225_mkM _ _ _ (⟨247, 247⟩ : S225) )) (Reps.c2 (show Kd.M k225 _ _ _ (⟨8352, 8384⟩ : S225) [.int .i32 8352, .int .i32 8384] from (k225_mkM _ _ _ (⟨8352, 8384⟩ : S225) )) (Reps.c2 (show Kd.M k225 _ _ _ (⟨8592, 8959⟩ : S225) [.int .i32 8592, .int .i32 8959] from (k225_mkM _ _ _ (⟨8592, 8959⟩ : S225) )) (Reps.c2 (show Kd.M k225 _ _ _ (⟨65533, 65533⟩ : S225) [.int .i32 65533, .int .i32 65533] from (k225_mkM _ _ _ (⟨65533, 65533⟩ : S225) )) (Reps.c2 (show Kd.M k225 _ _ _ (⟨128512, 128591⟩ : S225) [.int .i32 128512, .int .i32 128591] from (k225_mkM _ _ _ (⟨128512, 128591⟩ : S225) )) (Reps.none _ _))))))))))))))))))))); intro v116 w15 ho16 hb hg_ hnew_; clear hg_ hnew_; (first | rw [← Ny115.out] at ho16 | (simp only [Int.reduceToNat] at ho16; rw [← Ny115.out] at ho16)); have n0_ := Aside0.mk (Kd.R_lower ho16 (below_size (by repeat (first | (with_reducible first | exact HB.out | apply below_alloc | apply pw_below_drewN | apply below_drew1) | exact HB.out)))); have n1_ := Aside0.mk (below_step (by repeat (first | (with_reducible first | exact HB.out | apply below_alloc | apply pw_below_drewN | apply below_drew1) | exact HB.out)) hb); clear HB; have HO117 := n0_; have HB := n1_; clear n0_ n1_; clear hb ho16))
      go_ret
      exact ⟨_, by first | rfl | (simp [errW_none, errW_some] <;> rfl) | (simp [*, errW_none, errW_some] <;> rfl), by (with_reducible repeat (first | apply Kd.R_alloc | apply Kd.R_drewN | apply Kd.R_drew)); exact HO117.out, by repeat (first | (with_reducible first | exact HB.out | apply below_alloc | apply pw_below_drewN | apply below_drew1) | exact HB.out)⟩
     ·rw [if_neg c14] at H
      have c14b0 : (a0 == 5) = false := beq_eq_false_iff_ne.mpr c14
      have c14b1 : (a0 != 5) = true := bne_iff_ne.mpr c14
      by_cases c17 : a0 = 1
      ·rw [if_pos c17] at H
       have c17b0 : (a0 == 1) = true := beq_iff_eq.mpr c17
       have c17b1 : (a0 != 1) = false := bne_eq_false_iff_eq.mpr c17
       clear c17
       obtain ⟨y118, hy118⟩ : ∃ y_ : List (S225), y_ = (([(⟨65, 90⟩ : S225), (⟨97, 122⟩ : S225), (⟨170, 170⟩ : S225), (⟨181, 181⟩ : S225), (⟨186, 186⟩ : S225), (⟨192, 214⟩ : S225), (⟨216, 246⟩ : S225), (⟨248, 687⟩ : S225), (⟨902, 902⟩ : S225), (⟨904, 1153⟩ : S225), (⟨1162, 1327⟩ : S225), (⟨4352, 4607⟩ : S225), (⟨7680, 8124⟩ : S225), (⟨8486, 8486⟩ : S225), (⟨8490, 8491⟩ : S225), (⟨12353, 12438⟩ : S225), (⟨12449, 12538⟩ : S225), (⟨19968, 40959⟩ : S225), (⟨44032, 55203⟩ : S225)] : List (S225))) := ⟨_, rfl⟩
       replace H : (some y118) = some r := by first | (rw [hy118]; with_reducible exact H) | (have H2_ := (Option.bind_some _ _).symm.trans H; rw [hy118]; with_reducible exact H2_) | (have H2_ := (Option.bind_some _ _).symm.trans H; with_reducible exact H2_) | with_reducible exact H | (rw [hy118]; exact H) | exact H
       have Ny118 := Aside0.mk hy118
       clear hy118
       obtain rfl := Option.some.inj H
       go_enter Tryz.func175, Tryz.ntmps175
       go_wp2_with (first | ((with_reducible refine gate_dst (N := 93) rfl ?_); refine Kd.R_lit k225 _ 225 ?hg (N := 93) ?hd (xs := ([(⟨65, 90⟩ : S225), (⟨97, 122⟩ : S225), (⟨170, 170⟩ : S225), (⟨181, 181⟩ : S225), (⟨186, 186⟩ : S225), (⟨192, 214⟩ : S225), (⟨216, 246⟩ : S225), (⟨248, 687⟩ : S225), (⟨902, 902⟩ : S225), (⟨904, 1153⟩ : S225), (⟨1162, 1327⟩ : S225), (⟨4352, 4607⟩ : S225), (⟨7680, 8124⟩ : S225), (⟨8486, 8486⟩ : S225), (⟨8490, 8491⟩ : S225), (⟨12353, 12438⟩ : S225), (⟨12449, 12538⟩ : S225), (⟨19968, 40959⟩ : S225), (⟨44032, 55203⟩ : S225)] : List (S225))) (inner := [.int .i32 65, .int .i32 90, .int .i32 97, .int .i32 122, .int .i32 170, .int .i32 170, .int .i32 181, .int .i32 181, .int .i32 186, .int .i32 186, .int .i32 192, .int .i32 214, .int .i32 216, .int .i32 246, .int .i32 248, .int .i32 687, .int .i32 902, .int .i32 902, .int .i32 904, .int .i32 1153, .int .i32 1162, .int .i32 1327, .int .i32 4352, .int .i32 4607, .int .i32 7680, .int .i32 8124, .int .i32 8486, .int .i32 8486, .int .i32 8490, .int .i32 8491, .int .i32 12353, .int .i32 12438, .int .i32 12449, .int .i32 12538, .int .i32 19968, .int .i32 40959, .int .i32 44032, .int .i32 55203]) (ok := fun _ => True) (okp := fun _ => True) ?hr ?hp (fun _ hk => hk) trivial (Below.refl _ _) (Nat.le_refl _) (by simp) ?_; (case hd => rfl); (case hg => rfl); (case hr => first | (go_simp; done) | (go_simp; rfl)); (case hp => exact (Reps.c2 (show Kd.M k225 _ _ _ (⟨65, 90⟩ : S225) [.int .i32 65, .int .i32 90] from (k225_mkM _ _ _ (⟨65, 90⟩ : S225) )) (Reps.c2 (show Kd.M k225 _ _ _ (⟨97, 122⟩ : S225) [.int .i32 97, .int .i32 122] from (k225_mkM _ _ _ (⟨97, 122⟩ : S225) )) (Reps.c2 (show Kd.M k225 _ _ _ (⟨170, 170⟩ : S225) [.int .i32 170, .int .i32 170] from (k225_mkM _ _ _ (⟨170, 170⟩ : S225) )) (Reps.c2 (show Kd.M k225 _ _ _ (⟨181, 181⟩ : S225) [.int .i32 181, .int .i32 181] from (k225_mkM _ _ _ (⟨181, 181⟩ : S225) )) (Reps.c2 (show Kd.M k225 _ _ _ (⟨186, 186⟩ : S225) [.int .i32 186, .int .i32 186] from (k225_mkM _ _ _ (⟨186, 186⟩ : S225) )) (Reps.c2 (show Kd.M k225 _ _ _ (⟨192, 214⟩ : S225) [.int .i32 192, .int .i32 214] from (k225_mkM _ _ _ (⟨192, 214⟩ : S225) )) (Reps.c2 (show Kd.M k225 _ _ _ (⟨216, 246⟩ : S225) [.int .i32 216, .int .i32 246] from (k225_mkM _ _ _ (⟨216, 246⟩ : S225) )) (Reps.c2 (show Kd.M k225 _ _ _ (⟨248, 687⟩ : S225) [.int .i32 248, .int .i32 687] from (k225_mkM _ _ _ (⟨248, 687⟩ : S225) )) (Reps.c2 (show Kd.M k225 _ _ _ (⟨902, 902⟩ : S225) [.int .i32 902, .int .i32 902] from (k225_mkM _ _ _ (⟨902, 902⟩ : S225) )) (Reps.c2 (show Kd.M k225 _ _ _ (⟨904, 1153⟩ : S225) [.int .i32 904, .int .i32 1153] from (k225_mkM _ _ _ (⟨904, 1153⟩ : S225) )) (Reps.c2 (show Kd.M k225 _ _ _ (⟨1162, 1327⟩ : S225) [.int .i32 1162, .int .i32 1327] from (k225_mkM _ _ _ (⟨1162, 1327⟩ : S225) )) (Reps.c2 (show Kd.M k225 _ _ _ (⟨4352, 4607⟩ : S225) [.int .i32 4352, .int .i32 4607] from (k225_mkM _ _ _ (⟨4352, 4607⟩ : S225) )) (Reps.c2 (show Kd.M k225 _ _ _ (⟨7680, 8124⟩ : S225) [.int .i32 7680, .int .i32 8124] from (k225_mkM _ _ _ (⟨7680, 8124⟩ : S225) )) (Reps.c2 (show Kd.M k225 _ _ _ (⟨8486, 8486⟩ : S225) [.int .i32 8486, .int .i32 8486] from (k225_mkM _ _ _ (⟨8486, 8486⟩ : S225) )) (Reps.c2 (show Kd.M k225 _ _ _ (⟨8490, 8491⟩ : S225) [.int .i32 8490, .int .i32 8491] from (k225_mkM _ _ _ (⟨8490, 8491⟩ : S225) )) (Reps.c2 (show Kd.M k225 _ _ _ (⟨12353, 12438⟩ : S225) [.int .i32 12353, .int .i32 12438] from (k225_mkM _ _ _ (⟨12353, 12438⟩ : S225) )) (Reps.c2 (show Kd.M k225 _ _ _ (⟨12449, 12538⟩ : S225) [.int .i32 12449, .int .i32 12538] from (k225_mkM _ _ _ (⟨12449, 12538⟩ : S225) )) (Reps.c2 (show Kd.M k225 _ _ _ (⟨19968, 40959⟩ : S225) [.int .i32 19968, .int .i32 40959] from (k225_mkM _ _ _ (⟨19968, 40959⟩ : S225) )) (Reps.c2 (show Kd.M k225 _ _ _ (⟨44032, 55203⟩ : S225) [.int .i32 44032, .int .i32 55203] from (k225_mkM _ _ _ (⟨44032, 55203⟩ : S225) )) (Reps.none _ _))))))))))))))))))))); intro v119 w18 ho19 hb hg_ hnew_; clear hg_ hnew_; (first | rw [← Ny118.out] at ho19 | (simp only [Int.reduceToNat] at ho19; rw [← Ny118.out] at ho19)); have n0_ := Aside0.mk (Kd.R_lower ho19 (below_size (by repeat (first | (with_reducible first | exact HB.out | apply below_alloc | apply pw_below_drewN | apply below_drew1) | exact HB.out)))); have n1_ := Aside0.mk (below_step (by repeat (first | (with_reducible first | exact HB.out | apply below_alloc | apply pw_below_drewN | apply below_drew1) | exact HB.out)) hb); clear HB; have HO120 := n0_; have HB := n1_; clear n0_ n1_; clear hb ho19))
       go_ret
       exact ⟨_, by first | rfl | (simp [errW_none, errW_some] <;> rfl) | (simp [*, errW_none, errW_some] <;> rfl), by (with_reducible repeat (first | apply Kd.R_alloc | apply Kd.R_drewN | apply Kd.R_drew)); exact HO120.out, by repeat (first | (with_reducible first | exact HB.out | apply below_alloc | apply pw_below_drewN | apply below_drew1) | exact HB.out)⟩
      ·rw [if_neg c17] at H
       have c17b0 : (a0 == 1) = false := beq_eq_false_iff_ne.mpr c17
       have c17b1 : (a0 != 1) = true := bne_iff_ne.mpr c17
       obtain rfl := Option.some.inj H
       go_enter Tryz.func175, Tryz.ntmps175
       go_wp2
       go_ret
       exact ⟨_, by first | rfl | (simp [errW_none, errW_some] <;> rfl) | (simp [*, errW_none, errW_some] <;> rfl), by first | exact Kd.R_nil _ _ _ _ _ | exact Kd.N_nil _ _ _ _ _ | exact Kd.V_nil _ _ _ _ _ | exact Kd.Q_nil _ _ _ _ _ | exact Kd.S_nil _ _ _ _ _, by repeat (first | (with_reducible first | exact HB.out | apply below_alloc | apply pw_below_drewN | apply below_drew1) | exact HB.out)⟩
end Go.Proofs.YtdambnclbpipdaaGreatDoor.X
namespace Go.Proofs.YtdambnclbpipdaaGreatDoor.Vb
set_option linter.unusedVariables false
set_option linter.unusedSimpArgs false
open Go.RowKit Go.Proofs.YtdambnclbpipdaaGreatDoorW.PrintWords Go.Proofs.YtdambnclbpipdaaGreatDoor.Hp Go.Proofs.YtdambnclbpipdaaGreatDoor.Va Go.Proofs.YtdambnclbpipdaaGreatDoor.X
def inR (r : Int) (x : S225) : Bool := decide (x.f0 ≤ r) && decide (r ≤ x.f1)
set_option maxRecDepth 100000 in
theorem CloP (w : World) (g : Nat) (r lo hi : Int) (hb : w.heap[g]? = some (.cells #[.int .i32 r] 21 (0, 0))) :
    Calls Tryz.prog 176 #[.agg #[.int .i32 lo, .int .i32 hi], .pointer (some ⟨g, 0, none⟩)] w fun e w' => e = .returned (.bool (decide (lo ≤ r) && decide (r ≤ hi))) ∧ Below w.heap.size w w' := by
  have hu41 := Tryz.underlying225
  have hgl := blk_lt hb
  have hc0 := blk_cell hb 0
  have NB := Aside0.mk (below_alloc (Below.refl w.heap.size w) (.cells #[.int .i32 lo, .int .i32 hi] 225))
  clear hb
  by_cases h1 : lo ≤ r
  · have d1 : decide (lo ≤ r) = true := decide_eq_true h1
    by_cases h2 : r ≤ hi
    · have d2 : decide (r ≤ hi) = true := decide_eq_true h2
      go_enter Tryz.func176, Tryz.ntmps176
      go_wp2
      go_ret
      exact ⟨by first | rfl | (rw [d1, d2]; rfl), NB.out⟩
    · have d2 : decide (r ≤ hi) = false := decide_eq_false h2
      go_enter Tryz.func176, Tryz.ntmps176
      go_wp2
      go_ret
      exact ⟨by first | rfl | (rw [d1, d2]; rfl), NB.out⟩
  · have d1 : decide (lo ≤ r) = false := decide_eq_false h1
    go_enter Tryz.func176, Tryz.ntmps176
    go_wp2
    go_ret
    exact ⟨by first | rfl | (rw [d1]; rfl), NB.out⟩
theorem ranges_at {w : World} {A : Option Addr} {n : Nat} {l : List S225} (h : Kd.C k225 w A n l) (j : Nat) (hj : j < n) : ∃ ad, A = some ad ∧ w.cell? (ad.add (j * 2)) = some (.int .i32 (rd_T225 l j).f0) ∧ w.cell? ⟨(ad.add (j * 2)).block, (ad.add (j * 2)).off + 1, none⟩ = some (.int .i32 (rd_T225 l j).f1) := by
  have := at_T225 h (j : Int) (by omega) (by omega)
  rw [Int.toNat_natCast] at this
  exact this
set_option maxRecDepth 100000 in
set_option maxHeartbeats 1000000 in
theorem IdxP (w : World) (A : Option Addr) (n c : Nat) (l : List S225) (hC : Kd.C k225 w A n l) (hn : n = l.length) (hn5 : n ≤ 1000000) (g : Nat) (r : Int) (hb : w.heap[g]? = some (.cells #[.int .i32 r] 21 (0, 0))) :
    Calls Tryz.prog 187 #[.slice A n c, .func (.func 176) #[] #[.pointer (some ⟨g, 0, none⟩)]] w fun e w' => ∃ z : Int, e = .returned (.int .i64 z) ∧ decide (0 ≤ z) = l.any (inR r) ∧ Below w.heap.size w w' := by
  have hu41 := Tryz.underlying225
  have HC := Aside0.mk hC
  have HN := Aside0.mk hn
  have HB := Aside0.mk hb
  clear hC hn hb
  go_enter Tryz.func187, Tryz.ntmps187
  go_wp2
  go_loopw [8] (fun iv wr => ∃ i : Nat, i ≤ n ∧ iv = .int .i64 i ∧ Aside0 (l.any (inR r) = (l.drop i).any (inR r)) ∧ Aside0 (Below w.heap.size w wr)) (fun iv _ => n - (intOf iv).toNat)
  case atStart => exact ⟨0, Nat.zero_le _, rfl, ⟨rfl⟩, ⟨Below.refl _ _⟩⟩
  case round =>
    obtain ⟨i, hi, rfl, HE, HW⟩ := hrel
    by_cases hlt : i < n
    · have hd : decide ((i : Int) < (n : Int)) = true := decide_eq_true (by omega)
      obtain ⟨ad, rfl, x0, x1⟩ := ranges_at HC.out i hlt
      have y0 := (HW.out.cell (World.block_lt_of_cell? w _ x0)).trans x0
      have y1 := (HW.out.cell (World.block_lt_of_cell? w _ x1)).trans x1
      have hdr : l.drop i = rd_T225 l i :: l.drop (i + 1) := by
        have h1 : i < l.length := by rw [← HN.out]; exact hlt
        rw [List.drop_eq_getElem_cons h1]
        unfold rd_T225
        simp [List.getElem?_eq_getElem h1]
      have he := HE.out
      rw [hdr, List.any_cons] at he
      obtain ⟨⟨lo, hi'⟩, hp⟩ : ∃ p, p = rd_T225 l i := ⟨_, rfl⟩
      rw [← hp] at y0 y1 he
      simp only at y0 y1
      clear x0 x1 hdr hp
      have hin : inR r ⟨lo, hi'⟩ = (decide (lo ≤ r) && decide (r ≤ hi')) := rfl
      rw [hin] at he
      have HB2 := Aside0.mk ((HW.out.block g (blk_lt HB.out)).trans HB.out)
      cases hbb : (decide (lo ≤ r) && decide (r ≤ hi')) with
      | true =>
        rw [hbb, Bool.true_or] at he
        have HE1 := Aside0.mk he
        have HBB := Aside0.mk hbb
        clear he hbb hin HE
        go_wp2_with (first | (go_at_call 176; go_must (refine (CloP wr g r lo hi' HB2.out).mono ?_; rintro e w3 ⟨rfl, p1⟩; rw [HBB.out]; have B3 := Aside0.mk (below_then HW.out HW.out.size p1); clear p1)))
        go_ret
        exact ⟨_, rfl, by rw [HE1.out]; simp, B3.out⟩
      | false =>
        rw [hbb, Bool.false_or] at he
        have HE1 := Aside0.mk he
        have HBB := Aside0.mk hbb
        clear he hbb hin HE
        go_wp2_with (first | (go_at_call 176; go_must (refine (CloP wr g r lo hi' HB2.out).mono ?_; rintro e w3 ⟨rfl, p1⟩; rw [HBB.out]; have B3 := Aside0.mk (below_then HW.out HW.out.size p1); clear p1)))
        go_roundw
        case rel => exact ⟨i + 1, by omega, by go_num, HE1, B3⟩
        case measure => simp [intOf]; omega
    · have hd : decide ((i : Int) < (n : Int)) = false := decide_eq_false (by omega)
      obtain rfl : i = n := by omega
      have he := HE.out
      rw [HN.out, List.drop_of_length_le (Nat.le_refl _)] at he
      have HE1 := Aside0.mk he
      clear he
      go_wp2
      go_ret
      exact ⟨-1, rfl, by rw [HE1.out]; rfl, HW.out⟩
set_option maxRecDepth 100000 in
theorem HasP (w : World) (A : Option Addr) (n c : Nat) (l : List S225) (hC : Kd.C k225 w A n l) (hn : n = l.length) (hn5 : n ≤ 1000000) (g : Nat) (r : Int) (hb : w.heap[g]? = some (.cells #[.int .i32 r] 21 (0, 0))) :
    Calls Tryz.prog 174 #[.slice A n c, .func (.func 176) #[] #[.pointer (some ⟨g, 0, none⟩)]] w fun e w' => e = .returned (.bool (l.any (inR r))) ∧ Below w.heap.size w w' := by
  have HC := Aside0.mk hC
  have HN := Aside0.mk hn
  have HB := Aside0.mk hb
  clear hC hn hb
  go_enter Tryz.func174, Tryz.ntmps174
  go_wp2_with (first | (go_at_call 187; go_must (refine (IdxP w A n c l HC.out HN.out hn5 g r HB.out).mono ?_; rintro e w3 ⟨z, rfl, p1, p2⟩; have P1 := Aside0.mk p1; have B3 := Aside0.mk p2; clear p1 p2)))
  go_ret
  exact ⟨by rw [← P1.out]; rfl, B3.out⟩
def lst (k : Int) : List S225 := (ucd_listed.f k).getD []
theorem lst_some (k : Nat) (h : 1 ≤ k ∧ k ≤ 6) : ucd_listed.f k = some (lst k) := by
  have : k = 1 ∨ k = 2 ∨ k = 3 ∨ k = 4 ∨ k = 5 ∨ k = 6 := by omega
  rcases this with rfl | rfl | rfl | rfl | rfl | rfl <;> rfl
theorem lst_len (k : Nat) (h : 1 ≤ k ∧ k ≤ 6) : (lst k).length ≤ 100 := by
  have : k = 1 ∨ k = 2 ∨ k = 3 ∨ k = 4 ∨ k = 5 ∨ k = 6 := by omega
  rcases this with rfl | rfl | rfl | rfl | rfl | rfl <;> decide
def catF (r : Int) : Nat → Nat → Int
  | 0, _ => 7
  | m + 1, k => if (lst k).any (inR r) = true then k else catF r m (k + 1)
def cat (r : Int) : Int := catF r 6 1
set_option maxRecDepth 100000 in
set_option maxHeartbeats 1000000 in
theorem CatP (w : World) (r : Int) : Calls Tryz.prog 149 #[.int .i32 r] w fun e w' => e = .returned (.int .i64 (cat r)) ∧ Below w.heap.size w w' := by
  have NB := Aside0.mk (below_alloc (Below.refl w.heap.size w) (.cells #[.int .i32 r] 21))
  have NK := Aside0.mk (heap_alloc_new w (.cells #[.int .i32 r] 21))
  go_enter Tryz.func149, Tryz.ntmps149
  go_wp2
  go_loopw [3] (fun kv wr => ∃ k : Nat, 1 ≤ k ∧ k ≤ 7 ∧ kv = .int .i64 k ∧ Aside0 (cat r = catF r (7 - k) k) ∧ Aside0 (Below w.heap.size w wr) ∧ Aside0 (wr.heap[w.heap.size]? = some (.cells #[.int .i32 r] 21 (0, 0)))) (fun kv _ => 7 - (intOf kv).toNat)
  case atStart => exact ⟨1, by omega, by omega, rfl, ⟨rfl⟩, NB, NK⟩
  case round =>
    obtain ⟨k, h1, h7, rfl, HE, HW, HK⟩ := hrel
    by_cases hlt : k < 7
    · have hd : decide ((k : Int) < 7) = true := decide_eq_true (by omega)
      have HL := Aside0.mk (lst_some k ⟨h1, by omega⟩)
      have hll := lst_len k ⟨h1, by omega⟩
      obtain ⟨l, hl⟩ : ∃ l, l = lst k := ⟨_, rfl⟩
      obtain ⟨q, hq⟩ : ∃ q, q = l.length := ⟨_, rfl⟩
      have he := HE.out
      rw [show 7 - k = (6 - k) + 1 by omega, catF] at he
      rw [← hl] at HL hll he
      rw [← hq] at hll
      have HQ := Aside0.mk hq
      clear hl hq
      cases hb : l.any (inR r) with
      | true =>
        rw [hb, if_pos rfl] at he
        have HE1 := Aside0.mk he
        have HBB := Aside0.mk hb
        clear he hb
        go_wp2_with (first | (go_at_call 175; go_must (refine (ucd_listed.calls k l wr HL.out).mono ?_; rintro e w2 ⟨v2, rfl, p1, p2⟩; obtain ⟨A2, c2, rfl, -, p3⟩ := Kd.R_reads p1; rw [← HQ.out] at p3 ⊢; have C2 := Aside0.mk p3; have B2 := Aside0.mk (below_then HW.out HW.out.size p2); have K2 := Aside0.mk ((p2.block _ (blk_lt HK.out)).trans HK.out); clear p1 p2 p3)) | (go_at_call 174; go_must (refine (HasP w2 A2 q c2 l C2.out HQ.out (by omega) w.heap.size r K2.out).mono ?_; rintro e w3 ⟨rfl, p1⟩; rw [HBB.out]; have B3 := Aside0.mk (below_then B2.out B2.out.size p1); clear p1)))
        go_ret
        exact ⟨by rw [HE1.out]; rfl, B3.out⟩
      | false =>
        rw [hb, if_neg (by decide)] at he
        have HE1 := Aside0.mk (show cat r = catF r (7 - (k + 1)) (k + 1) by rw [he]; congr 1; omega)
        have HBB := Aside0.mk hb
        clear he hb
        go_wp2_with (first | (go_at_call 175; go_must (refine (ucd_listed.calls k l wr HL.out).mono ?_; rintro e w2 ⟨v2, rfl, p1, p2⟩; obtain ⟨A2, c2, rfl, -, p3⟩ := Kd.R_reads p1; rw [← HQ.out] at p3 ⊢; have C2 := Aside0.mk p3; have B2 := Aside0.mk (below_then HW.out HW.out.size p2); have K2 := Aside0.mk ((p2.block _ (blk_lt HK.out)).trans HK.out); clear p1 p2 p3)) | (go_at_call 174; go_must (refine (HasP w2 A2 q c2 l C2.out HQ.out (by omega) w.heap.size r K2.out).mono ?_; rintro e w3 ⟨rfl, p1⟩; rw [HBB.out]; have B3 := Aside0.mk (below_then B2.out B2.out.size p1); have K3 := Aside0.mk ((p1.block _ (blk_lt K2.out)).trans K2.out); clear p1)))
        go_roundw
        case rel => exact ⟨k + 1, by omega, by omega, by go_num, HE1, B3, K3⟩
        case measure => simp [intOf]; omega
    · have hd : decide ((k : Int) < 7) = false := decide_eq_false (by omega)
      obtain rfl : k = 7 := by omega
      have HE1 := Aside0.mk (show cat r = 7 from HE.out)
      go_wp2
      go_ret
      exact ⟨by rw [HE1.out]; rfl, HW.out⟩
end Go.Proofs.YtdambnclbpipdaaGreatDoor.Vb
namespace Go.Proofs.YtdambnclbpipdaaGreatDoor.X
set_option linter.unusedVariables false
set_option linter.unusedSimpArgs false
open Go.RowKit Go.Proofs.YtdambnclbpipdaaGreatDoorW.PrintWords
def ucd_Category.f (a0 : Int) : Option Int := some (Vb.cat a0)
theorem ucd_Category.calls (a0 : Int) (r : Int) (w : World) (h : ucd_Category.f a0 = some r) : Calls Tryz.prog 149 #[.int .i32 a0] w fun e w' => e = .returned (.int .i64 r) ∧ Below w.heap.size w w' := by
  obtain rfl := Option.some.inj h
  exact Vb.CatP w a0
end Go.Proofs.YtdambnclbpipdaaGreatDoor.X
namespace Go.Proofs.YtdambnclbpipdaaGreatDoor.X
open Go.RowKit Go.Proofs.YtdambnclbpipdaaGreatDoorW.PrintWords Go.Proofs.YtdambnclbpipdaaGreatDoorW.PrintLast Go.Proofs.YtdambnclbpipdaaGreatDoorW.PrintMore
attribute [local go_sem] max2_int min2_int max_two min_two max_three min_three max_four min_four   
set_option linter.unusedVariables false
set_option linter.unusedSimpArgs false
mutual
def ucd_fold.j8 : Nat → Int → Option (Int)
 | 0, _ => none
 | k + 1, x0 => if x0 = 181 then (some 956) else (if x0 = 376 then (some 255) else (if x0 = 383 then (some 115) else (if x0 = 837 then (some 953) else (if x0 = 902 then (some 940) else (if x0 = 962 then (some 963) else (if x0 = 8486 then (some 969) else (if x0 = 8490 then (some 107) else (if x0 = 8491 then (some 229) else (some x0)))))))))
def ucd_fold.j0 : Nat → Int → Bool → Option (Int)
 | 0, _, _ => none
 | k + 1, x0, x3 => if x3 = true then (ucd_fold.j2 k x0 x3) else (if x0 ≥ 192 then (if x0 ≤ 222 then (ucd_fold.j1 k x0 (x0 != 215)) else (ucd_fold.j1 k x0 false)) else (ucd_fold.j1 k x0 false))
def ucd_fold.j2 : Nat → Int → Bool → Option (Int)
 | 0, _, _ => none
 | k + 1, x0, x3 => if x3 = true then (some (wrap32 (x0 + 32))) else (if x0 ≥ 1024 then (ucd_fold.j3 k x0 (decide (x0 ≤ 1039))) else (ucd_fold.j3 k x0 false))
def ucd_fold.j3 : Nat → Int → Bool → Option (Int)
 | 0, _, _ => none
 | k + 1, x0, x38 => if x38 = true then (some (wrap32 (x0 + 80))) else (if x0 ≥ 256 then (ucd_fold.j4 k x0 (decide (x0 ≤ 302))) else (ucd_fold.j4 k x0 false))
def ucd_fold.j4 : Nat → Int → Bool → Option (Int)
 | 0, _, _ => none
 | k + 1, x0, x47 => if x47 = true then (ucd_fold.j6 k x0 x47) else (if x0 ≥ 306 then (ucd_fold.j5 k x0 (decide (x0 ≤ 310))) else (ucd_fold.j5 k x0 false))
def ucd_fold.j6 : Nat → Int → Bool → Option (Int)
 | 0, _, _ => none
 | k + 1, x0, x47 => if x47 = true then (some (Go.bits .or .i32 x0 1)) else (if x0 ≥ 313 then (ucd_fold.j7 k x0 (decide (x0 ≤ 327))) else (ucd_fold.j7 k x0 false))
def ucd_fold.j7 : Nat → Int → Bool → Option (Int)
 | 0, _, _ => none
 | k + 1, x0, x74 => if x74 = true then (some (wrap32 (x0 + (Go.bits .and .i32 x0 1)))) else (if x0 ≥ 377 then (if x0 ≤ 381 then (some (wrap32 (x0 + (Go.bits .and .i32 x0 1)))) else (ucd_fold.j8 k x0)) else (ucd_fold.j8 k x0))
def ucd_fold.j5 : Nat → Int → Bool → Option (Int)
 | 0, _, _ => none
 | k + 1, x0, x47 => if x47 = true then (ucd_fold.j6 k x0 x47) else (if x0 ≥ 330 then (if x0 ≤ 374 then (ucd_fold.j6 k x0 (decide (x0 ≤ 374))) else (if x0 ≥ 7680 then (ucd_fold.j6 k x0 (decide (x0 ≤ 7828))) else (ucd_fold.j6 k x0 false))) else (if x0 ≥ 7680 then (ucd_fold.j6 k x0 (decide (x0 ≤ 7828))) else (ucd_fold.j6 k x0 false)))
def ucd_fold.j1 : Nat → Int → Bool → Option (Int)
 | 0, _, _ => none
 | k + 1, x0, x3 => if x3 = true then (ucd_fold.j2 k x0 x3) else (if x0 ≥ 913 then (if x0 ≤ 937 then (if x0 = 930 then (if x0 ≥ 1040 then (ucd_fold.j2 k x0 (decide (x0 ≤ 1071))) else (ucd_fold.j2 k x0 false)) else (ucd_fold.j2 k x0 (x0 != 930))) else (if x0 ≥ 1040 then (ucd_fold.j2 k x0 (decide (x0 ≤ 1071))) else (ucd_fold.j2 k x0 false))) else (if x0 ≥ 1040 then (ucd_fold.j2 k x0 (decide (x0 ≤ 1071))) else (ucd_fold.j2 k x0 false)))
end
def ucd_fold.f (k : Nat) (a0 : Int) : Option (Int) := if a0 ≥ 65 then (ucd_fold.j0 k a0 (decide (a0 ≤ 90))) else (ucd_fold.j0 k a0 false)
theorem ucd_fold.mono_l : ∀ k, (∀ y0, LeO (ucd_fold.j8 k y0) (ucd_fold.j8 (k + 1) y0)) ∧ (∀ y0 y1, LeO (ucd_fold.j0 k y0 y1) (ucd_fold.j0 (k + 1) y0 y1)) ∧ (∀ y0 y1, LeO (ucd_fold.j2 k y0 y1) (ucd_fold.j2 (k + 1) y0 y1)) ∧ (∀ y0 y1, LeO (ucd_fold.j3 k y0 y1) (ucd_fold.j3 (k + 1) y0 y1)) ∧ (∀ y0 y1, LeO (ucd_fold.j4 k y0 y1) (ucd_fold.j4 (k + 1) y0 y1)) ∧ (∀ y0 y1, LeO (ucd_fold.j6 k y0 y1) (ucd_fold.j6 (k + 1) y0 y1)) ∧ (∀ y0 y1, LeO (ucd_fold.j7 k y0 y1) (ucd_fold.j7 (k + 1) y0 y1)) ∧ (∀ y0 y1, LeO (ucd_fold.j5 k y0 y1) (ucd_fold.j5 (k + 1) y0 y1)) ∧ (∀ y0 y1, LeO (ucd_fold.j1 k y0 y1) (ucd_fold.j1 (k + 1) y0 y1))
 | 0 => ⟨fun _ r h => by simp [ucd_fold.j8] at h, fun _ _ r h => by simp [ucd_fold.j0] at h, fun _ _ r h => by simp [ucd_fold.j2] at h, fun _ _ r h => by simp [ucd_fold.j3] at h, fun _ _ r h => by simp [ucd_fold.j4] at h, fun _ _ r h => by simp [ucd_fold.j6] at h, fun _ _ r h => by simp [ucd_fold.j7] at h, fun _ _ r h => by simp [ucd_fold.j5] at h, fun _ _ r h => by simp [ucd_fold.j1] at h⟩
 | k + 1 => by
  obtain ⟨ih0, ih1, ih2, ih3, ih4, ih5, ih6, ih7, ih8⟩ := ucd_fold.mono_l k
  refine ⟨?_, ?_, ?_, ?_, ?_, ?_, ?_, ?_, ?_⟩
  ·intro y0
   unfold ucd_fold.j8
   repeat' first
   | (with_reducible exact ih0 _)
   | (with_reducible exact ih1 _ _)
   | (with_reducible exact ih2 _ _)
   | (with_reducible exact ih3 _ _)
   | (with_reducible exact ih4 _ _)
   | (with_reducible exact ih5 _ _)
   | (with_reducible exact ih6 _ _)
   | (with_reducible exact ih7 _ _)
   | (with_reducible exact ih8 _ _)
   | (with_reducible exact LeO.refl _)
   | (with_reducible exact LeO.none _)
   | (with_reducible refine LeO.ite ?_ ?_)
   | (with_reducible refine LeO.bind ?_ (fun _ => ?_))
   | exact ih0 _
   | exact ih1 _ _
   | exact ih2 _ _
   | exact ih3 _ _
   | exact ih4 _ _
   | exact ih5 _ _
   | exact ih6 _ _
   | exact ih7 _ _
   | exact ih8 _ _
   | exact LeO.none _
   | refine LeO.ite ?_ ?_
   | refine LeO.bind ?_ (fun _ => ?_)
  ·intro y0 y1
   unfold ucd_fold.j0
   repeat' first
   | (with_reducible exact ih0 _)
   | (with_reducible exact ih1 _ _)
   | (with_reducible exact ih2 _ _)
   | (with_reducible exact ih3 _ _)
   | (with_reducible exact ih4 _ _)
   | (with_reducible exact ih5 _ _)
   | (with_reducible exact ih6 _ _)
   | (with_reducible exact ih7 _ _)
   | (with_reducible exact ih8 _ _)
   | (with_reducible exact LeO.refl _)
   | (with_reducible exact LeO.none _)
   | (with_reducible refine LeO.ite ?_ ?_)
   | (with_reducible refine LeO.bind ?_ (fun _ => ?_))
   | exact ih0 _
   | exact ih1 _ _
   | exact ih2 _ _
   | exact ih3 _ _
   | exact ih4 _ _
   | exact ih5 _ _
   | exact ih6 _ _
   | exact ih7 _ _
   | exact ih8 _ _
   | exact LeO.none _
   | refine LeO.ite ?_ ?_
   | refine LeO.bind ?_ (fun _ => ?_)
  ·intro y0 y1
   unfold ucd_fold.j2
   repeat' first
   | (with_reducible exact ih0 _)
   | (with_reducible exact ih1 _ _)
   | (with_reducible exact ih2 _ _)
   | (with_reducible exact ih3 _ _)
   | (with_reducible exact ih4 _ _)
   | (with_reducible exact ih5 _ _)
   | (with_reducible exact ih6 _ _)
   | (with_reducible exact ih7 _ _)
   | (with_reducible exact ih8 _ _)
   | (with_reducible exact LeO.refl _)
   | (with_reducible exact LeO.none _)
   | (with_reducible refine LeO.ite ?_ ?_)
   | (with_reducible refine LeO.bind ?_ (fun _ => ?_))
   | exact ih0 _
   | exact ih1 _ _
   | exact ih2 _ _
   | exact ih3 _ _
   | exact ih4 _ _
   | exact ih5 _ _
   | exact ih6 _ _
   | exact ih7 _ _
   | exact ih8 _ _
   | exact LeO.none _
   | refine LeO.ite ?_ ?_
   | refine LeO.bind ?_ (fun _ => ?_)
  ·intro y0 y1
   unfold ucd_fold.j3
   repeat' first
   | (with_reducible exact ih0 _)
   | (with_reducible exact ih1 _ _)
   | (with_reducible exact ih2 _ _)
   | (with_reducible exact ih3 _ _)
   | (with_reducible exact ih4 _ _)
   | (with_reducible exact ih5 _ _)
   | (with_reducible exact ih6 _ _)
   | (with_reducible exact ih7 _ _)
   | (with_reducible exact ih8 _ _)
   | (with_reducible exact LeO.refl _)
   | (with_reducible exact LeO.none _)
   | (with_reducible refine LeO.ite ?_ ?_)
   | (with_reducible refine LeO.bind ?_ (fun _ => ?_))
   | exact ih0 _
   | exact ih1 _ _
   | exact ih2 _ _
   | exact ih3 _ _
   | exact ih4 _ _
   | exact ih5 _ _
   | exact ih6 _ _
   | exact ih7 _ _
   | exact ih8 _ _
   | exact LeO.none _
   | refine LeO.ite ?_ ?_
   | refine LeO.bind ?_ (fun _ => ?_)
  ·intro y0 y1
   unfold ucd_fold.j4
   repeat' first
   | (with_reducible exact ih0 _)
   | (with_reducible exact ih1 _ _)
   | (with_reducible exact ih2 _ _)
   | (with_reducible exact ih3 _ _)
   | (with_reducible exact ih4 _ _)
   | (with_reducible exact ih5 _ _)
   | (with_reducible exact ih6 _ _)
   | (with_reducible exact ih7 _ _)
   | (with_reducible exact ih8 _ _)
   | (with_reducible exact LeO.refl _)
   | (with_reducible exact LeO.none _)
   | (with_reducible refine LeO.ite ?_ ?_)
   | (with_reducible refine LeO.bind ?_ (fun _ => ?_))
   | exact ih0 _
   | exact ih1 _ _
   | exact ih2 _ _
   | exact ih3 _ _
   | exact ih4 _ _
   | exact ih5 _ _
   | exact ih6 _ _
   | exact ih7 _ _
   | exact ih8 _ _
   | exact LeO.none _
   | refine LeO.ite ?_ ?_
   | refine LeO.bind ?_ (fun _ => ?_)
  ·intro y0 y1
   unfold ucd_fold.j6
   repeat' first
   | (with_reducible exact ih0 _)
   | (with_reducible exact ih1 _ _)
   | (with_reducible exact ih2 _ _)
   | (with_reducible exact ih3 _ _)
   | (with_reducible exact ih4 _ _)
   | (with_reducible exact ih5 _ _)
   | (with_reducible exact ih6 _ _)
   | (with_reducible exact ih7 _ _)
   | (with_reducible exact ih8 _ _)
   | (with_reducible exact LeO.refl _)
   | (with_reducible exact LeO.none _)
   | (with_reducible refine LeO.ite ?_ ?_)
   | (with_reducible refine LeO.bind ?_ (fun _ => ?_))
   | exact ih0 _
   | exact ih1 _ _
   | exact ih2 _ _
   | exact ih3 _ _
   | exact ih4 _ _
   | exact ih5 _ _
   | exact ih6 _ _
   | exact ih7 _ _
   | exact ih8 _ _
   | exact LeO.none _
   | refine LeO.ite ?_ ?_
   | refine LeO.bind ?_ (fun _ => ?_)
  ·intro y0 y1
   unfold ucd_fold.j7
   repeat' first
   | (with_reducible exact ih0 _)
   | (with_reducible exact ih1 _ _)
   | (with_reducible exact ih2 _ _)
   | (with_reducible exact ih3 _ _)
   | (with_reducible exact ih4 _ _)
   | (with_reducible exact ih5 _ _)
   | (with_reducible exact ih6 _ _)
   | (with_reducible exact ih7 _ _)
   | (with_reducible exact ih8 _ _)
   | (with_reducible exact LeO.refl _)
   | (with_reducible exact LeO.none _)
   | (with_reducible refine LeO.ite ?_ ?_)
   | (with_reducible refine LeO.bind ?_ (fun _ => ?_))
   | exact ih0 _
   | exact ih1 _ _
   | exact ih2 _ _
   | exact ih3 _ _
   | exact ih4 _ _
   | exact ih5 _ _
   | exact ih6 _ _
   | exact ih7 _ _
   | exact ih8 _ _
   | exact LeO.none _
   | refine LeO.ite ?_ ?_
   | refine LeO.bind ?_ (fun _ => ?_)
  ·intro y0 y1
   unfold ucd_fold.j5
   repeat' first
   | (with_reducible exact ih0 _)
   | (with_reducible exact ih1 _ _)
   | (with_reducible exact ih2 _ _)
   | (with_reducible exact ih3 _ _)
   | (with_reducible exact ih4 _ _)
   | (with_reducible exact ih5 _ _)
   | (with_reducible exact ih6 _ _)
   | (with_reducible exact ih7 _ _)
   | (with_reducible exact ih8 _ _)
   | (with_reducible exact LeO.refl _)
   | (with_reducible exact LeO.none _)
   | (with_reducible refine LeO.ite ?_ ?_)
   | (with_reducible refine LeO.bind ?_ (fun _ => ?_))
   | exact ih0 _
   | exact ih1 _ _
   | exact ih2 _ _
   | exact ih3 _ _
   | exact ih4 _ _
   | exact ih5 _ _
   | exact ih6 _ _
   | exact ih7 _ _
   | exact ih8 _ _
   | exact LeO.none _
   | refine LeO.ite ?_ ?_
   | refine LeO.bind ?_ (fun _ => ?_)
  ·intro y0 y1
   unfold ucd_fold.j1
   repeat' first
   | (with_reducible exact ih0 _)
   | (with_reducible exact ih1 _ _)
   | (with_reducible exact ih2 _ _)
   | (with_reducible exact ih3 _ _)
   | (with_reducible exact ih4 _ _)
   | (with_reducible exact ih5 _ _)
   | (with_reducible exact ih6 _ _)
   | (with_reducible exact ih7 _ _)
   | (with_reducible exact ih8 _ _)
   | (with_reducible exact LeO.refl _)
   | (with_reducible exact LeO.none _)
   | (with_reducible refine LeO.ite ?_ ?_)
   | (with_reducible refine LeO.bind ?_ (fun _ => ?_))
   | exact ih0 _
   | exact ih1 _ _
   | exact ih2 _ _
   | exact ih3 _ _
   | exact ih4 _ _
   | exact ih5 _ _
   | exact ih6 _ _
   | exact ih7 _ _
   | exact ih8 _ _
   | exact LeO.none _
   | refine LeO.ite ?_ ?_
   | refine LeO.bind ?_ (fun _ => ?_)
theorem ucd_fold.mono : ∀ a0 k, LeO (ucd_fold.f k a0) (ucd_fold.f (k + 1) a0) := by
 intro a0 k
 obtain ⟨ih0, ih1, ih2, ih3, ih4, ih5, ih6, ih7, ih8⟩ := ucd_fold.mono_l k
 unfold ucd_fold.f
 repeat' first
   | (with_reducible exact ih0 _)
   | (with_reducible exact ih1 _ _)
   | (with_reducible exact ih2 _ _)
   | (with_reducible exact ih3 _ _)
   | (with_reducible exact ih4 _ _)
   | (with_reducible exact ih5 _ _)
   | (with_reducible exact ih6 _ _)
   | (with_reducible exact ih7 _ _)
   | (with_reducible exact ih8 _ _)
   | (with_reducible exact LeO.refl _)
   | (with_reducible exact LeO.none _)
   | (with_reducible refine LeO.ite ?_ ?_)
   | (with_reducible refine LeO.bind ?_ (fun _ => ?_))
   | exact ih0 _
   | exact ih1 _ _
   | exact ih2 _ _
   | exact ih3 _ _
   | exact ih4 _ _
   | exact ih5 _ _
   | exact ih6 _ _
   | exact ih7 _ _
   | exact ih8 _ _
   | exact LeO.none _
   | refine LeO.ite ?_ ?_
   | refine LeO.bind ?_ (fun _ => ?_)
set_option maxHeartbeats 8000000 in
set_option maxRecDepth 100000 in
theorem ucd_fold.calls (k : Nat) (a0 : Int) (r : Int) (w : World) (h : ucd_fold.f k a0 = some r) :
  Calls Tryz.prog 152 #[.int .i32 a0] w fun e w' => e = .returned (.int .i32 r) ∧ Drawn0 w w' := by
 have H : (if a0 ≥ 65 then (ucd_fold.j0 k a0 (decide (a0 ≤ 90))) else (ucd_fold.j0 k a0 false)) = some r := h
 clear h
 have HC2 := Aside0.mk H
 clear H
 go_enter Tryz.func152, Tryz.ntmps152
 go_upto_block 0 with (fail)
 go_cut [] (fun wc => ∃ (kq : Nat), Aside0 (ucd_fold.j8 kq a0 = some r) ∧ Aside0 (kq ≤ k) ∧ Drawn0 w wc)
 case first =>
  have H := HC2.out
  clear HC2
  have HC3 := Aside0.mk H
  clear H
  go_upto_region 1 with (fail)
  go_cut [3] (fun v3 wc => ∃ (kq : Nat) (x3_2 : Bool), v3 = .bool x3_2 ∧ Aside0 (ucd_fold.j0 kq a0 x3_2 = some r) ∧ Aside0 (kq ≤ k) ∧ Drawn0 w wc)
  case first =>
   have H := HC3.out
   clear HC3
   by_cases c4 : a0 ≥ 65
   ·rw [if_pos c4] at H
    have c4b0 : decide (65 ≤ a0) = true := decide_eq_true c4
    clear c4
    (first | rw [c4b0] | (simp only [i64_w, i32_w]; rw [c4b0]) | skip)
    have H' := Aside0.mk H
    clear H
    go_wp2
    go_meet
    case rel => exact ⟨_, (decide (a0 ≤ 90)), (by first | rfl | (simp; done) | (simp [*]; done)), H', ⟨by first | omega | exact Nat.le_refl _⟩, by repeat (first | exact Drawn0.refl _ | apply Drawn0.step)⟩
   ·rw [if_neg c4] at H
    have c4b0 : decide (65 ≤ a0) = false := decide_eq_false c4
    clear c4
    (first | rw [c4b0] | (simp only [i64_w, i32_w]; rw [c4b0]) | skip)
    have H' := Aside0.mk H
    clear H
    go_wp2
    go_meet
    case rel => exact ⟨_, (false), (by first | rfl | (simp; done) | (simp [*]; done)), H', ⟨by first | omega | exact Nat.le_refl _⟩, by repeat (first | exact Drawn0.refl _ | apply Drawn0.step)⟩
  case rest =>
   clear HC3
   try clear c1
   try clear p2
   try clear c4
   try clear c4b0
   obtain ⟨kq, x3_2, rfl, HA, HJ2, ⟨mc2, rfl⟩⟩ := hcut
   cases kq with
   | zero => exact absurd HA.out (by simp [ucd_fold.j0])
   | succ kj2 =>
    have H := HA.out
    clear HA
    simp only [ucd_fold.j0] at H
    have HC5 := Aside0.mk H
    clear H
    go_upto_if 3 with (fail)
    go_cut [3] (fun v3 wc => ∃ (kq : Nat) (x3_4 : Bool), v3 = .bool x3_4 ∧ Aside0 (ucd_fold.j2 kq a0 x3_4 = some r) ∧ Aside0 (kq ≤ kj2) ∧ Drawn0 w wc)
    case first =>
     have H := HC5.out
     clear HC5
     by_cases c6 : x3_2 = true
     ·subst c6
      have H1 : (ucd_fold.j2 kj2 a0 true) = some r := by rw [if_pos rfl] at H; exact H
      clear H
      have H := H1
      clear H1
      have H' := Aside0.mk H
      clear H
      go_wp2
      go_meet
      case rel => exact ⟨_, (true), (by first | rfl | (simp; done) | (simp [*]; done)), H', ⟨by have := HJ2.out; first | omega | exact Nat.le_refl _⟩, by repeat (first | exact Drawn0.refl _ | apply Drawn0.step)⟩
     ·replace c6 := Bool.eq_false_iff.mpr c6
      subst c6
      have H1 : (if a0 ≥ 192 then (if a0 ≤ 222 then (ucd_fold.j1 kj2 a0 (a0 != 215)) else (ucd_fold.j1 kj2 a0 false)) else (ucd_fold.j1 kj2 a0 false)) = some r := by rw [if_neg (show ¬ (false = true) by decide)] at H; exact H
      clear H
      have H := H1
      clear H1
      have HC7 := Aside0.mk H
      clear H
      go_upto_region 2 with (fail)
      go_cut [3] (fun v3 wc => ∃ (kq : Nat) (x3_6 : Bool), v3 = .bool x3_6 ∧ Aside0 (ucd_fold.j1 kq a0 x3_6 = some r) ∧ Aside0 (kq ≤ kj2) ∧ Drawn0 w wc)
      case first =>
       have H := HC7.out
       clear HC7
       by_cases c8 : a0 ≥ 192
       ·rw [if_pos c8] at H
        have c8b0 : decide (192 ≤ a0) = true := decide_eq_true c8
        clear c8
        (first | rw [c8b0] | (simp only [i64_w, i32_w]; rw [c8b0]) | skip)
        by_cases c9 : a0 ≤ 222
        ·rw [if_pos c9] at H
         have c9b0 : decide (a0 ≤ 222) = true := decide_eq_true c9
         clear c9
         have H' := Aside0.mk H
         clear H
         go_wp2
         go_meet
         case rel => exact ⟨_, ((a0 != 215)), (by first | rfl | (simp; done) | (simp [*]; done)), H', ⟨by have := HJ2.out; first | omega | exact Nat.le_refl _⟩, by repeat (first | exact Drawn0.refl _ | apply Drawn0.step)⟩
        ·rw [if_neg c9] at H
         have c9b0 : decide (a0 ≤ 222) = false := decide_eq_false c9
         clear c9
         have H' := Aside0.mk H
         clear H
         go_wp2
         go_meet
         case rel => exact ⟨_, (false), (by first | rfl | (simp; done) | (simp [*]; done)), H', ⟨by have := HJ2.out; first | omega | exact Nat.le_refl _⟩, by repeat (first | exact Drawn0.refl _ | apply Drawn0.step)⟩
       ·rw [if_neg c8] at H
        have c8b0 : decide (192 ≤ a0) = false := decide_eq_false c8
        clear c8
        (first | rw [c8b0] | (simp only [i64_w, i32_w]; rw [c8b0]) | skip)
        have H' := Aside0.mk H
        clear H
        go_wp2
        go_meet
        case rel => exact ⟨_, (false), (by first | rfl | (simp; done) | (simp [*]; done)), H', ⟨by have := HJ2.out; first | omega | exact Nat.le_refl _⟩, by repeat (first | exact Drawn0.refl _ | apply Drawn0.step)⟩
      case rest =>
       clear HC7
       try clear c1
       try clear c2
       try clear p2
       try clear c4
       try clear c4b0
       try clear c6
       try clear c8
       try clear c8b0
       try clear c9
       try clear c9b0
       try clear p2
       obtain ⟨kq, x3_6, rfl, HA, HJ6, ⟨mc6, rfl⟩⟩ := hcut
       cases kq with
       | zero => exact absurd HA.out (by simp [ucd_fold.j1])
       | succ kj6 =>
        have H := HA.out
        clear HA
        simp only [ucd_fold.j1] at H
        by_cases c10 : x3_6 = true
        ·subst c10
         have H1 : (ucd_fold.j2 kj6 a0 true) = some r := by rw [if_pos rfl] at H; exact H
         clear H
         have H := H1
         clear H1
         have H' := Aside0.mk H
         clear H
         go_wp2
         go_meet
         case rel => exact ⟨_, (true), (by first | rfl | (simp; done) | (simp [*]; done)), H', ⟨by have := HJ2.out; have := HJ6.out; first | omega | exact Nat.le_refl _⟩, by repeat (first | exact Drawn0.refl _ | apply Drawn0.step)⟩
        ·replace c10 := Bool.eq_false_iff.mpr c10
         subst c10
         have H1 : (if a0 ≥ 913 then (if a0 ≤ 937 then (if a0 = 930 then (if a0 ≥ 1040 then (ucd_fold.j2 kj6 a0 (decide (a0 ≤ 1071))) else (ucd_fold.j2 kj6 a0 false)) else (ucd_fold.j2 kj6 a0 (a0 != 930))) else (if a0 ≥ 1040 then (ucd_fold.j2 kj6 a0 (decide (a0 ≤ 1071))) else (ucd_fold.j2 kj6 a0 false))) else (if a0 ≥ 1040 then (ucd_fold.j2 kj6 a0 (decide (a0 ≤ 1071))) else (ucd_fold.j2 kj6 a0 false))) = some r := by rw [if_neg (show ¬ (false = true) by decide)] at H; exact H
         clear H
         have H := H1
         clear H1
         by_cases c11 : a0 ≥ 913
         ·rw [if_pos c11] at H
          have c11b0 : decide (913 ≤ a0) = true := decide_eq_true c11
          clear c11
          by_cases c12 : a0 ≤ 937
          ·rw [if_pos c12] at H
           have c12b0 : decide (a0 ≤ 937) = true := decide_eq_true c12
           clear c12
           by_cases c13 : a0 = 930
           ·rw [if_pos c13] at H
            have c13b0 : (a0 == 930) = true := beq_iff_eq.mpr c13
            have c13b1 : (a0 != 930) = false := bne_eq_false_iff_eq.mpr c13
            clear c13
            by_cases c14 : a0 ≥ 1040
            ·rw [if_pos c14] at H
             have c14b0 : decide (1040 ≤ a0) = true := decide_eq_true c14
             clear c14
             have H' := Aside0.mk H
             clear H
             go_wp2
             go_meet
             case rel => exact ⟨_, (decide (a0 ≤ 1071)), (by first | rfl | (simp; done) | (simp [*]; done)), H', ⟨by have := HJ2.out; have := HJ6.out; first | omega | exact Nat.le_refl _⟩, by repeat (first | exact Drawn0.refl _ | apply Drawn0.step)⟩
            ·rw [if_neg c14] at H
             have c14b0 : decide (1040 ≤ a0) = false := decide_eq_false c14
             clear c14
             have H' := Aside0.mk H
             clear H
             go_wp2
             go_meet
             case rel => exact ⟨_, (false), (by first | rfl | (simp; done) | (simp [*]; done)), H', ⟨by have := HJ2.out; have := HJ6.out; first | omega | exact Nat.le_refl _⟩, by repeat (first | exact Drawn0.refl _ | apply Drawn0.step)⟩
           ·rw [if_neg c13] at H
            have c13b0 : (a0 == 930) = false := beq_eq_false_iff_ne.mpr c13
            have c13b1 : (a0 != 930) = true := bne_iff_ne.mpr c13
            have H' := Aside0.mk H
            clear H
            go_wp2
            go_meet
            case rel => exact ⟨_, ((a0 != 930)), (by first | rfl | (simp; done) | (simp [*]; done)), H', ⟨by have := HJ2.out; have := HJ6.out; first | omega | exact Nat.le_refl _⟩, by repeat (first | exact Drawn0.refl _ | apply Drawn0.step)⟩
          ·rw [if_neg c12] at H
           have c12b0 : decide (a0 ≤ 937) = false := decide_eq_false c12
           clear c12
           by_cases c15 : a0 ≥ 1040
           ·rw [if_pos c15] at H
            have c15b0 : decide (1040 ≤ a0) = true := decide_eq_true c15
            clear c15
            have H' := Aside0.mk H
            clear H
            go_wp2
            go_meet
            case rel => exact ⟨_, (decide (a0 ≤ 1071)), (by first | rfl | (simp; done) | (simp [*]; done)), H', ⟨by have := HJ2.out; have := HJ6.out; first | omega | exact Nat.le_refl _⟩, by repeat (first | exact Drawn0.refl _ | apply Drawn0.step)⟩
           ·rw [if_neg c15] at H
            have c15b0 : decide (1040 ≤ a0) = false := decide_eq_false c15
            clear c15
            have H' := Aside0.mk H
            clear H
            go_wp2
            go_meet
            case rel => exact ⟨_, (false), (by first | rfl | (simp; done) | (simp [*]; done)), H', ⟨by have := HJ2.out; have := HJ6.out; first | omega | exact Nat.le_refl _⟩, by repeat (first | exact Drawn0.refl _ | apply Drawn0.step)⟩
         ·rw [if_neg c11] at H
          have c11b0 : decide (913 ≤ a0) = false := decide_eq_false c11
          clear c11
          by_cases c16 : a0 ≥ 1040
          ·rw [if_pos c16] at H
           have c16b0 : decide (1040 ≤ a0) = true := decide_eq_true c16
           clear c16
           have H' := Aside0.mk H
           clear H
           go_wp2
           go_meet
           case rel => exact ⟨_, (decide (a0 ≤ 1071)), (by first | rfl | (simp; done) | (simp [*]; done)), H', ⟨by have := HJ2.out; have := HJ6.out; first | omega | exact Nat.le_refl _⟩, by repeat (first | exact Drawn0.refl _ | apply Drawn0.step)⟩
          ·rw [if_neg c16] at H
           have c16b0 : decide (1040 ≤ a0) = false := decide_eq_false c16
           clear c16
           have H' := Aside0.mk H
           clear H
           go_wp2
           go_meet
           case rel => exact ⟨_, (false), (by first | rfl | (simp; done) | (simp [*]; done)), H', ⟨by have := HJ2.out; have := HJ6.out; first | omega | exact Nat.le_refl _⟩, by repeat (first | exact Drawn0.refl _ | apply Drawn0.step)⟩
    case rest =>
     clear HC5
     try clear c1
     try clear c2
     try clear p2
     try clear c4
     try clear c4b0
     try clear c6
     try clear c8
     try clear c8b0
     try clear c9
     try clear c9b0
     try clear c10
     try clear c11
     try clear c11b0
     try clear c12
     try clear c12b0
     try clear c13
     try clear c13b0
     try clear c13b1
     try clear c14
     try clear c14b0
     try clear c15
     try clear c15b0
     try clear c16
     try clear c16b0
     try clear p2
     obtain ⟨kq, x3_4, rfl, HA, HJ4, ⟨mc4, rfl⟩⟩ := hcut
     cases kq with
     | zero => exact absurd HA.out (by simp [ucd_fold.j2])
     | succ kj4 =>
      have H := HA.out
      clear HA
      simp only [ucd_fold.j2] at H
      by_cases c17 : x3_4 = true
      ·subst c17
       have H1 : (some (wrap32 (a0 + 32))) = some r := by rw [if_pos rfl] at H; exact H
       clear H
       have H := H1
       clear H1
       obtain rfl := Option.some.inj H
       go_wp2
       go_ret
       exact ⟨by first | rfl | (simp; done) | (simp [*]; done), by repeat (first | exact Drawn0.refl _ | apply Drawn0.step)⟩
      ·replace c17 := Bool.eq_false_iff.mpr c17
       subst c17
       have H1 : (if a0 ≥ 1024 then (ucd_fold.j3 kj4 a0 (decide (a0 ≤ 1039))) else (ucd_fold.j3 kj4 a0 false)) = some r := by rw [if_neg (show ¬ (false = true) by decide)] at H; exact H
       clear H
       have H := H1
       clear H1
       have HC18 := Aside0.mk H
       clear H
       go_upto_region 6 with (fail)
       go_cut [38] (fun v38 wc => ∃ (kq : Nat) (x38_17 : Bool), v38 = .bool x38_17 ∧ Aside0 (ucd_fold.j3 kq a0 x38_17 = some r) ∧ Aside0 (kq ≤ kj4) ∧ Drawn0 w wc)
       case first =>
        have H := HC18.out
        clear HC18
        by_cases c19 : a0 ≥ 1024
        ·rw [if_pos c19] at H
         have c19b0 : decide (1024 ≤ a0) = true := decide_eq_true c19
         clear c19
         (first | rw [c19b0] | (simp only [i64_w, i32_w]; rw [c19b0]) | skip)
         have H' := Aside0.mk H
         clear H
         go_wp2
         go_meet
         case rel => exact ⟨_, (decide (a0 ≤ 1039)), (by first | rfl | (simp; done) | (simp [*]; done)), H', ⟨by have := HJ2.out; have := HJ4.out; first | omega | exact Nat.le_refl _⟩, by repeat (first | exact Drawn0.refl _ | apply Drawn0.step)⟩
        ·rw [if_neg c19] at H
         have c19b0 : decide (1024 ≤ a0) = false := decide_eq_false c19
         clear c19
         (first | rw [c19b0] | (simp only [i64_w, i32_w]; rw [c19b0]) | skip)
         have H' := Aside0.mk H
         clear H
         go_wp2
         go_meet
         case rel => exact ⟨_, (false), (by first | rfl | (simp; done) | (simp [*]; done)), H', ⟨by have := HJ2.out; have := HJ4.out; first | omega | exact Nat.le_refl _⟩, by repeat (first | exact Drawn0.refl _ | apply Drawn0.step)⟩
       case rest =>
        clear HC18
        try clear c1
        try clear c2
        try clear p2
        try clear p3
        try clear c4
        try clear c4b0
        try clear c6
        try clear c8
        try clear c8b0
        try clear c9
        try clear c9b0
        try clear c10
        try clear c11
        try clear c11b0
        try clear c12
        try clear c12b0
        try clear c13
        try clear c13b0
        try clear c13b1
        try clear c14
        try clear c14b0
        try clear c15
        try clear c15b0
        try clear c16
        try clear c16b0
        try clear c17
        try clear c19
        try clear c19b0
        try clear p2
        obtain ⟨kq, x38_17, rfl, HA, HJ17, ⟨mc17, rfl⟩⟩ := hcut
        cases kq with
        | zero => exact absurd HA.out (by simp [ucd_fold.j3])
        | succ kj17 =>
         have H := HA.out
         clear HA
         simp only [ucd_fold.j3] at H
         by_cases c20 : x38_17 = true
         ·subst c20
          have H1 : (some (wrap32 (a0 + 80))) = some r := by rw [if_pos rfl] at H; exact H
          clear H
          have H := H1
          clear H1
          obtain rfl := Option.some.inj H
          go_wp2
          go_ret
          exact ⟨by first | rfl | (simp; done) | (simp [*]; done), by repeat (first | exact Drawn0.refl _ | apply Drawn0.step)⟩
         ·replace c20 := Bool.eq_false_iff.mpr c20
          subst c20
          have H1 : (if a0 ≥ 256 then (ucd_fold.j4 kj17 a0 (decide (a0 ≤ 302))) else (ucd_fold.j4 kj17 a0 false)) = some r := by rw [if_neg (show ¬ (false = true) by decide)] at H; exact H
          clear H
          have H := H1
          clear H1
          have HC21 := Aside0.mk H
          clear H
          go_upto_region 8 with (fail)
          go_cut [47] (fun v47 wc => ∃ (kq : Nat) (x47_20 : Bool), v47 = .bool x47_20 ∧ Aside0 (ucd_fold.j4 kq a0 x47_20 = some r) ∧ Aside0 (kq ≤ kj17) ∧ Drawn0 w wc)
          case first =>
           have H := HC21.out
           clear HC21
           by_cases c22 : a0 ≥ 256
           ·rw [if_pos c22] at H
            have c22b0 : decide (256 ≤ a0) = true := decide_eq_true c22
            clear c22
            (first | rw [c22b0] | (simp only [i64_w, i32_w]; rw [c22b0]) | skip)
            have H' := Aside0.mk H
            clear H
            go_wp2
            go_meet
            case rel => exact ⟨_, (decide (a0 ≤ 302)), (by first | rfl | (simp; done) | (simp [*]; done)), H', ⟨by have := HJ2.out; have := HJ4.out; have := HJ17.out; first | omega | exact Nat.le_refl _⟩, by repeat (first | exact Drawn0.refl _ | apply Drawn0.step)⟩
           ·rw [if_neg c22] at H
            have c22b0 : decide (256 ≤ a0) = false := decide_eq_false c22
            clear c22
            (first | rw [c22b0] | (simp only [i64_w, i32_w]; rw [c22b0]) | skip)
            have H' := Aside0.mk H
            clear H
            go_wp2
            go_meet
            case rel => exact ⟨_, (false), (by first | rfl | (simp; done) | (simp [*]; done)), H', ⟨by have := HJ2.out; have := HJ4.out; have := HJ17.out; first | omega | exact Nat.le_refl _⟩, by repeat (first | exact Drawn0.refl _ | apply Drawn0.step)⟩
          case rest =>
           clear HC21
           try clear c1
           try clear c2
           try clear p2
           try clear p3
           try clear c4
           try clear c4b0
           try clear c6
           try clear c8
           try clear c8b0
           try clear c9
           try clear c9b0
           try clear c10
           try clear c11
           try clear c11b0
           try clear c12
           try clear c12b0
           try clear c13
           try clear c13b0
           try clear c13b1
           try clear c14
           try clear c14b0
           try clear c15
           try clear c15b0
           try clear c16
           try clear c16b0
           try clear c17
           try clear c19
           try clear c19b0
           try clear c20
           try clear c22
           try clear c22b0
           try clear p2
           try clear p3
           obtain ⟨kq, x47_20, rfl, HA, HJ20, ⟨mc20, rfl⟩⟩ := hcut
           cases kq with
           | zero => exact absurd HA.out (by simp [ucd_fold.j4])
           | succ kj20 =>
            have H := HA.out
            clear HA
            simp only [ucd_fold.j4] at H
            have HC23 := Aside0.mk H
            clear H
            go_upto_if 47 with (fail)
            go_cut [47] (fun v47 wc => ∃ (kq : Nat) (x47_22 : Bool), v47 = .bool x47_22 ∧ Aside0 (ucd_fold.j6 kq a0 x47_22 = some r) ∧ Aside0 (kq ≤ kj20) ∧ Drawn0 w wc)
            case first =>
             have H := HC23.out
             clear HC23
             by_cases c24 : x47_20 = true
             ·subst c24
              have H1 : (ucd_fold.j6 kj20 a0 true) = some r := by rw [if_pos rfl] at H; exact H
              clear H
              have H := H1
              clear H1
              have H' := Aside0.mk H
              clear H
              go_wp2
              go_meet
              case rel => exact ⟨_, (true), (by first | rfl | (simp; done) | (simp [*]; done)), H', ⟨by have := HJ2.out; have := HJ4.out; have := HJ17.out; have := HJ20.out; first | omega | exact Nat.le_refl _⟩, by repeat (first | exact Drawn0.refl _ | apply Drawn0.step)⟩
             ·replace c24 := Bool.eq_false_iff.mpr c24
              subst c24
              have H1 : (if a0 ≥ 306 then (ucd_fold.j5 kj20 a0 (decide (a0 ≤ 310))) else (ucd_fold.j5 kj20 a0 false)) = some r := by rw [if_neg (show ¬ (false = true) by decide)] at H; exact H
              clear H
              have H := H1
              clear H1
              have HC25 := Aside0.mk H
              clear H
              go_upto_region 9 with (fail)
              go_cut [47] (fun v47 wc => ∃ (kq : Nat) (x47_24 : Bool), v47 = .bool x47_24 ∧ Aside0 (ucd_fold.j5 kq a0 x47_24 = some r) ∧ Aside0 (kq ≤ kj20) ∧ Drawn0 w wc)
              case first =>
               have H := HC25.out
               clear HC25
               by_cases c26 : a0 ≥ 306
               ·rw [if_pos c26] at H
                have c26b0 : decide (306 ≤ a0) = true := decide_eq_true c26
                clear c26
                (first | rw [c26b0] | (simp only [i64_w, i32_w]; rw [c26b0]) | skip)
                have H' := Aside0.mk H
                clear H
                go_wp2
                go_meet
                case rel => exact ⟨_, (decide (a0 ≤ 310)), (by first | rfl | (simp; done) | (simp [*]; done)), H', ⟨by have := HJ2.out; have := HJ4.out; have := HJ17.out; have := HJ20.out; first | omega | exact Nat.le_refl _⟩, by repeat (first | exact Drawn0.refl _ | apply Drawn0.step)⟩
               ·rw [if_neg c26] at H
                have c26b0 : decide (306 ≤ a0) = false := decide_eq_false c26
                clear c26
                (first | rw [c26b0] | (simp only [i64_w, i32_w]; rw [c26b0]) | skip)
                have H' := Aside0.mk H
                clear H
                go_wp2
                go_meet
                case rel => exact ⟨_, (false), (by first | rfl | (simp; done) | (simp [*]; done)), H', ⟨by have := HJ2.out; have := HJ4.out; have := HJ17.out; have := HJ20.out; first | omega | exact Nat.le_refl _⟩, by repeat (first | exact Drawn0.refl _ | apply Drawn0.step)⟩
              case rest =>
               clear HC25
               try clear c1
               try clear c2
               try clear p2
               try clear p3
               try clear c4
               try clear c4b0
               try clear c6
               try clear c8
               try clear c8b0
               try clear c9
               try clear c9b0
               try clear c10
               try clear c11
               try clear c11b0
               try clear c12
               try clear c12b0
               try clear c13
               try clear c13b0
               try clear c13b1
               try clear c14
               try clear c14b0
               try clear c15
               try clear c15b0
               try clear c16
               try clear c16b0
               try clear c17
               try clear c19
               try clear c19b0
               try clear c20
               try clear c22
               try clear c22b0
               try clear c24
               try clear c26
               try clear c26b0
               try clear p2
               try clear p3
               obtain ⟨kq, x47_24, rfl, HA, HJ24, ⟨mc24, rfl⟩⟩ := hcut
               cases kq with
               | zero => exact absurd HA.out (by simp [ucd_fold.j5])
               | succ kj24 =>
                have H := HA.out
                clear HA
                simp only [ucd_fold.j5] at H
                by_cases c27 : x47_24 = true
                ·subst c27
                 have H1 : (ucd_fold.j6 kj24 a0 true) = some r := by rw [if_pos rfl] at H; exact H
                 clear H
                 have H := H1
                 clear H1
                 have H' := Aside0.mk H
                 clear H
                 go_wp2
                 go_meet
                 case rel => exact ⟨_, (true), (by first | rfl | (simp; done) | (simp [*]; done)), H', ⟨by have := HJ2.out; have := HJ4.out; have := HJ17.out; have := HJ20.out; have := HJ24.out; first | omega | exact Nat.le_refl _⟩, by repeat (first | exact Drawn0.refl _ | apply Drawn0.step)⟩
                ·replace c27 := Bool.eq_false_iff.mpr c27
                 subst c27
                 have H1 : (if a0 ≥ 330 then (if a0 ≤ 374 then (ucd_fold.j6 kj24 a0 (decide (a0 ≤ 374))) else (if a0 ≥ 7680 then (ucd_fold.j6 kj24 a0 (decide (a0 ≤ 7828))) else (ucd_fold.j6 kj24 a0 false))) else (if a0 ≥ 7680 then (ucd_fold.j6 kj24 a0 (decide (a0 ≤ 7828))) else (ucd_fold.j6 kj24 a0 false))) = some r := by rw [if_neg (show ¬ (false = true) by decide)] at H; exact H
                 clear H
                 have H := H1
                 clear H1
                 by_cases c28 : a0 ≥ 330
                 ·rw [if_pos c28] at H
                  have c28b0 : decide (330 ≤ a0) = true := decide_eq_true c28
                  clear c28
                  by_cases c29 : a0 ≤ 374
                  ·rw [if_pos c29] at H
                   have c29b0 : decide (a0 ≤ 374) = true := decide_eq_true c29
                   clear c29
                   have H' := Aside0.mk H
                   clear H
                   go_wp2
                   go_meet
                   case rel => exact ⟨_, (decide (a0 ≤ 374)), (by first | rfl | (simp; done) | (simp [*]; done)), H', ⟨by have := HJ2.out; have := HJ4.out; have := HJ17.out; have := HJ20.out; have := HJ24.out; first | omega | exact Nat.le_refl _⟩, by repeat (first | exact Drawn0.refl _ | apply Drawn0.step)⟩
                  ·rw [if_neg c29] at H
                   have c29b0 : decide (a0 ≤ 374) = false := decide_eq_false c29
                   clear c29
                   by_cases c30 : a0 ≥ 7680
                   ·rw [if_pos c30] at H
                    have c30b0 : decide (7680 ≤ a0) = true := decide_eq_true c30
                    clear c30
                    have H' := Aside0.mk H
                    clear H
                    go_wp2
                    go_meet
                    case rel => exact ⟨_, (decide (a0 ≤ 7828)), (by first | rfl | (simp; done) | (simp [*]; done)), H', ⟨by have := HJ2.out; have := HJ4.out; have := HJ17.out; have := HJ20.out; have := HJ24.out; first | omega | exact Nat.le_refl _⟩, by repeat (first | exact Drawn0.refl _ | apply Drawn0.step)⟩
                   ·rw [if_neg c30] at H
                    have c30b0 : decide (7680 ≤ a0) = false := decide_eq_false c30
                    clear c30
                    have H' := Aside0.mk H
                    clear H
                    go_wp2
                    go_meet
                    case rel => exact ⟨_, (false), (by first | rfl | (simp; done) | (simp [*]; done)), H', ⟨by have := HJ2.out; have := HJ4.out; have := HJ17.out; have := HJ20.out; have := HJ24.out; first | omega | exact Nat.le_refl _⟩, by repeat (first | exact Drawn0.refl _ | apply Drawn0.step)⟩
                 ·rw [if_neg c28] at H
                  have c28b0 : decide (330 ≤ a0) = false := decide_eq_false c28
                  clear c28
                  by_cases c31 : a0 ≥ 7680
                  ·rw [if_pos c31] at H
                   have c31b0 : decide (7680 ≤ a0) = true := decide_eq_true c31
                   clear c31
                   have H' := Aside0.mk H
                   clear H
                   go_wp2
                   go_meet
                   case rel => exact ⟨_, (decide (a0 ≤ 7828)), (by first | rfl | (simp; done) | (simp [*]; done)), H', ⟨by have := HJ2.out; have := HJ4.out; have := HJ17.out; have := HJ20.out; have := HJ24.out; first | omega | exact Nat.le_refl _⟩, by repeat (first | exact Drawn0.refl _ | apply Drawn0.step)⟩
                  ·rw [if_neg c31] at H
                   have c31b0 : decide (7680 ≤ a0) = false := decide_eq_false c31
                   clear c31
                   have H' := Aside0.mk H
                   clear H
                   go_wp2
                   go_meet
                   case rel => exact ⟨_, (false), (by first | rfl | (simp; done) | (simp [*]; done)), H', ⟨by have := HJ2.out; have := HJ4.out; have := HJ17.out; have := HJ20.out; have := HJ24.out; first | omega | exact Nat.le_refl _⟩, by repeat (first | exact Drawn0.refl _ | apply Drawn0.step)⟩
            case rest =>
             clear HC23
             try clear c1
             try clear c2
             try clear p2
             try clear c3
             try clear p3
             try clear c4
             try clear c4b0
             try clear c6
             try clear c8
             try clear c8b0
             try clear c9
             try clear c9b0
             try clear c10
             try clear c11
             try clear c11b0
             try clear c12
             try clear c12b0
             try clear c13
             try clear c13b0
             try clear c13b1
             try clear c14
             try clear c14b0
             try clear c15
             try clear c15b0
             try clear c16
             try clear c16b0
             try clear c17
             try clear c19
             try clear c19b0
             try clear c20
             try clear c22
             try clear c22b0
             try clear c24
             try clear c26
             try clear c26b0
             try clear c27
             try clear c28
             try clear c28b0
             try clear c29
             try clear c29b0
             try clear c30
             try clear c30b0
             try clear c31
             try clear c31b0
             try clear p2
             try clear p3
             obtain ⟨kq, x47_22, rfl, HA, HJ22, ⟨mc22, rfl⟩⟩ := hcut
             cases kq with
             | zero => exact absurd HA.out (by simp [ucd_fold.j6])
             | succ kj22 =>
              have H := HA.out
              clear HA
              simp only [ucd_fold.j6] at H
              by_cases c32 : x47_22 = true
              ·subst c32
               have H1 : (some (Go.bits .or .i32 a0 1)) = some r := by rw [if_pos rfl] at H; exact H
               clear H
               have H := H1
               clear H1
               obtain rfl := Option.some.inj H
               go_wp2
               go_ret
               exact ⟨by first | rfl | (simp; done) | (simp [*]; done), by repeat (first | exact Drawn0.refl _ | apply Drawn0.step)⟩
              ·replace c32 := Bool.eq_false_iff.mpr c32
               subst c32
               have H1 : (if a0 ≥ 313 then (ucd_fold.j7 kj22 a0 (decide (a0 ≤ 327))) else (ucd_fold.j7 kj22 a0 false)) = some r := by rw [if_neg (show ¬ (false = true) by decide)] at H; exact H
               clear H
               have H := H1
               clear H1
               have HC33 := Aside0.mk H
               clear H
               go_upto_region 13 with (fail)
               go_cut [74] (fun v74 wc => ∃ (kq : Nat) (x74_32 : Bool), v74 = .bool x74_32 ∧ Aside0 (ucd_fold.j7 kq a0 x74_32 = some r) ∧ Aside0 (kq ≤ kj22) ∧ Drawn0 w wc)
               case first =>
                have H := HC33.out
                clear HC33
                by_cases c34 : a0 ≥ 313
                ·rw [if_pos c34] at H
                 have c34b0 : decide (313 ≤ a0) = true := decide_eq_true c34
                 clear c34
                 (first | rw [c34b0] | (simp only [i64_w, i32_w]; rw [c34b0]) | skip)
                 have H' := Aside0.mk H
                 clear H
                 go_wp2
                 go_meet
                 case rel => exact ⟨_, (decide (a0 ≤ 327)), (by first | rfl | (simp; done) | (simp [*]; done)), H', ⟨by have := HJ2.out; have := HJ4.out; have := HJ17.out; have := HJ20.out; have := HJ22.out; first | omega | exact Nat.le_refl _⟩, by repeat (first | exact Drawn0.refl _ | apply Drawn0.step)⟩
                ·rw [if_neg c34] at H
                 have c34b0 : decide (313 ≤ a0) = false := decide_eq_false c34
                 clear c34
                 (first | rw [c34b0] | (simp only [i64_w, i32_w]; rw [c34b0]) | skip)
                 have H' := Aside0.mk H
                 clear H
                 go_wp2
                 go_meet
                 case rel => exact ⟨_, (false), (by first | rfl | (simp; done) | (simp [*]; done)), H', ⟨by have := HJ2.out; have := HJ4.out; have := HJ17.out; have := HJ20.out; have := HJ22.out; first | omega | exact Nat.le_refl _⟩, by repeat (first | exact Drawn0.refl _ | apply Drawn0.step)⟩
               case rest =>
                clear HC33
                try clear c1
                try clear c2
                try clear p2
                try clear c3
                try clear p3
                try clear c4
                try clear c4b0
                try clear c6
                try clear c8
                try clear c8b0
                try clear c9
                try clear c9b0
                try clear c10
                try clear c11
                try clear c11b0
                try clear c12
                try clear c12b0
                try clear c13
                try clear c13b0
                try clear c13b1
                try clear c14
                try clear c14b0
                try clear c15
                try clear c15b0
                try clear c16
                try clear c16b0
                try clear c17
                try clear c19
                try clear c19b0
                try clear c20
                try clear c22
                try clear c22b0
                try clear c24
                try clear c26
                try clear c26b0
                try clear c27
                try clear c28
                try clear c28b0
                try clear c29
                try clear c29b0
                try clear c30
                try clear c30b0
                try clear c31
                try clear c31b0
                try clear c32
                try clear p32
                try clear c34
                try clear c34b0
                try clear p2
                try clear p3
                obtain ⟨kq, x74_32, rfl, HA, HJ32, ⟨mc32, rfl⟩⟩ := hcut
                cases kq with
                | zero => exact absurd HA.out (by simp [ucd_fold.j7])
                | succ kj32 =>
                 have H := HA.out
                 clear HA
                 simp only [ucd_fold.j7] at H
                 by_cases c35 : x74_32 = true
                 ·subst c35
                  have H1 : (some (wrap32 (a0 + (Go.bits .and .i32 a0 1)))) = some r := by rw [if_pos rfl] at H; exact H
                  clear H
                  have H := H1
                  clear H1
                  obtain rfl := Option.some.inj H
                  go_wp2
                  go_ret
                  exact ⟨by first | rfl | (simp; done) | (simp [*]; done), by repeat (first | exact Drawn0.refl _ | apply Drawn0.step)⟩
                 ·replace c35 := Bool.eq_false_iff.mpr c35
                  subst c35
                  have H1 : (if a0 ≥ 377 then (if a0 ≤ 381 then (some (wrap32 (a0 + (Go.bits .and .i32 a0 1)))) else (ucd_fold.j8 kj32 a0)) else (ucd_fold.j8 kj32 a0)) = some r := by rw [if_neg (show ¬ (false = true) by decide)] at H; exact H
                  clear H
                  have H := H1
                  clear H1
                  by_cases c36 : a0 ≥ 377
                  ·rw [if_pos c36] at H
                   have c36b0 : decide (377 ≤ a0) = true := decide_eq_true c36
                   clear c36
                   by_cases c37 : a0 ≤ 381
                   ·rw [if_pos c37] at H
                    have c37b0 : decide (a0 ≤ 381) = true := decide_eq_true c37
                    clear c37
                    obtain rfl := Option.some.inj H
                    go_wp2
                    go_ret
                    exact ⟨by first | rfl | (simp; done) | (simp [*]; done), by repeat (first | exact Drawn0.refl _ | apply Drawn0.step)⟩
                   ·rw [if_neg c37] at H
                    have c37b0 : decide (a0 ≤ 381) = false := decide_eq_false c37
                    clear c37
                    have H' := Aside0.mk H
                    clear H
                    go_wp2
                    go_meet
                    case rel => exact ⟨_, H', ⟨by have := HJ2.out; have := HJ4.out; have := HJ17.out; have := HJ20.out; have := HJ22.out; have := HJ32.out; first | omega | exact Nat.le_refl _⟩, by repeat (first | exact Drawn0.refl _ | apply Drawn0.step)⟩
                  ·rw [if_neg c36] at H
                   have c36b0 : decide (377 ≤ a0) = false := decide_eq_false c36
                   clear c36
                   have H' := Aside0.mk H
                   clear H
                   go_wp2
                   go_meet
                   case rel => exact ⟨_, H', ⟨by have := HJ2.out; have := HJ4.out; have := HJ17.out; have := HJ20.out; have := HJ22.out; have := HJ32.out; first | omega | exact Nat.le_refl _⟩, by repeat (first | exact Drawn0.refl _ | apply Drawn0.step)⟩
 case rest =>
  clear HC2
  try clear c1
  try clear c2
  try clear p2
  try clear c3
  try clear p3
  try clear c4
  try clear c4b0
  try clear c6
  try clear c8
  try clear c8b0
  try clear c9
  try clear c9b0
  try clear c10
  try clear c11
  try clear c11b0
  try clear c12
  try clear c12b0
  try clear c13
  try clear c13b0
  try clear c13b1
  try clear c14
  try clear c14b0
  try clear c15
  try clear c15b0
  try clear c16
  try clear c16b0
  try clear c17
  try clear c19
  try clear c19b0
  try clear c20
  try clear c22
  try clear c22b0
  try clear c24
  try clear c26
  try clear c26b0
  try clear c27
  try clear c28
  try clear c28b0
  try clear c29
  try clear c29b0
  try clear c30
  try clear c30b0
  try clear c31
  try clear c31b0
  try clear c32
  try clear p32
  try clear c34
  try clear c34b0
  try clear c35
  try clear c36
  try clear c36b0
  try clear c37
  try clear c37b0
  try clear p2
  try clear p3
  try clear p32
  obtain ⟨kq, HA, HJ1, ⟨mc1, rfl⟩⟩ := hcut
  cases kq with
  | zero => exact absurd HA.out (by simp [ucd_fold.j8])
  | succ kj1 =>
   have H := HA.out
   clear HA
   simp only [ucd_fold.j8] at H
   by_cases c38 : a0 = 181
   ·rw [if_pos c38] at H
    have c38b0 : (a0 == 181) = true := beq_iff_eq.mpr c38
    have c38b1 : (a0 != 181) = false := bne_eq_false_iff_eq.mpr c38
    clear c38
    obtain rfl := Option.some.inj H
    go_wp2
    go_ret
    exact ⟨by first | rfl | (simp; done) | (simp [*]; done), by repeat (first | exact Drawn0.refl _ | apply Drawn0.step)⟩
   ·rw [if_neg c38] at H
    have c38b0 : (a0 == 181) = false := beq_eq_false_iff_ne.mpr c38
    have c38b1 : (a0 != 181) = true := bne_iff_ne.mpr c38
    by_cases c39 : a0 = 376
    ·rw [if_pos c39] at H
     have c39b0 : (a0 == 376) = true := beq_iff_eq.mpr c39
     have c39b1 : (a0 != 376) = false := bne_eq_false_iff_eq.mpr c39
     clear c39
     obtain rfl := Option.some.inj H
     go_wp2
     go_ret
     exact ⟨by first | rfl | (simp; done) | (simp [*]; done), by repeat (first | exact Drawn0.refl _ | apply Drawn0.step)⟩
    ·rw [if_neg c39] at H
     have c39b0 : (a0 == 376) = false := beq_eq_false_iff_ne.mpr c39
     have c39b1 : (a0 != 376) = true := bne_iff_ne.mpr c39
     by_cases c40 : a0 = 383
     ·rw [if_pos c40] at H
      have c40b0 : (a0 == 383) = true := beq_iff_eq.mpr c40
      have c40b1 : (a0 != 383) = false := bne_eq_false_iff_eq.mpr c40
      clear c40
      obtain rfl := Option.some.inj H
      go_wp2
      go_ret
      exact ⟨by first | rfl | (simp; done) | (simp [*]; done), by repeat (first | exact Drawn0.refl _ | apply Drawn0.step)⟩
     ·rw [if_neg c40] at H
      have c40b0 : (a0 == 383) = false := beq_eq_false_iff_ne.mpr c40
      have c40b1 : (a0 != 383) = true := bne_iff_ne.mpr c40
      by_cases c41 : a0 = 837
      ·rw [if_pos c41] at H
       have c41b0 : (a0 == 837) = true := beq_iff_eq.mpr c41
       have c41b1 : (a0 != 837) = false := bne_eq_false_iff_eq.mpr c41
       clear c41
       obtain rfl := Option.some.inj H
       go_wp2
       go_ret
       exact ⟨by first | rfl | (simp; done) | (simp [*]; done), by repeat (first | exact Drawn0.refl _ | apply Drawn0.step)⟩
      ·rw [if_neg c41] at H
       have c41b0 : (a0 == 837) = false := beq_eq_false_iff_ne.mpr c41
       have c41b1 : (a0 != 837) = true := bne_iff_ne.mpr c41
       by_cases c42 : a0 = 902
       ·rw [if_pos c42] at H
        have c42b0 : (a0 == 902) = true := beq_iff_eq.mpr c42
        have c42b1 : (a0 != 902) = false := bne_eq_false_iff_eq.mpr c42
        clear c42
        obtain rfl := Option.some.inj H
        go_wp2
        go_ret
        exact ⟨by first | rfl | (simp; done) | (simp [*]; done), by repeat (first | exact Drawn0.refl _ | apply Drawn0.step)⟩
       ·rw [if_neg c42] at H
        have c42b0 : (a0 == 902) = false := beq_eq_false_iff_ne.mpr c42
        have c42b1 : (a0 != 902) = true := bne_iff_ne.mpr c42
        by_cases c43 : a0 = 962
        ·rw [if_pos c43] at H
         have c43b0 : (a0 == 962) = true := beq_iff_eq.mpr c43
         have c43b1 : (a0 != 962) = false := bne_eq_false_iff_eq.mpr c43
         clear c43
         obtain rfl := Option.some.inj H
         go_wp2
         go_ret
         exact ⟨by first | rfl | (simp; done) | (simp [*]; done), by repeat (first | exact Drawn0.refl _ | apply Drawn0.step)⟩
        ·rw [if_neg c43] at H
         have c43b0 : (a0 == 962) = false := beq_eq_false_iff_ne.mpr c43
         have c43b1 : (a0 != 962) = true := bne_iff_ne.mpr c43
         by_cases c44 : a0 = 8486
         ·rw [if_pos c44] at H
          have c44b0 : (a0 == 8486) = true := beq_iff_eq.mpr c44
          have c44b1 : (a0 != 8486) = false := bne_eq_false_iff_eq.mpr c44
          clear c44
          obtain rfl := Option.some.inj H
          go_wp2
          go_ret
          exact ⟨by first | rfl | (simp; done) | (simp [*]; done), by repeat (first | exact Drawn0.refl _ | apply Drawn0.step)⟩
         ·rw [if_neg c44] at H
          have c44b0 : (a0 == 8486) = false := beq_eq_false_iff_ne.mpr c44
          have c44b1 : (a0 != 8486) = true := bne_iff_ne.mpr c44
          by_cases c45 : a0 = 8490
          ·rw [if_pos c45] at H
           have c45b0 : (a0 == 8490) = true := beq_iff_eq.mpr c45
           have c45b1 : (a0 != 8490) = false := bne_eq_false_iff_eq.mpr c45
           clear c45
           obtain rfl := Option.some.inj H
           go_wp2
           go_ret
           exact ⟨by first | rfl | (simp; done) | (simp [*]; done), by repeat (first | exact Drawn0.refl _ | apply Drawn0.step)⟩
          ·rw [if_neg c45] at H
           have c45b0 : (a0 == 8490) = false := beq_eq_false_iff_ne.mpr c45
           have c45b1 : (a0 != 8490) = true := bne_iff_ne.mpr c45
           by_cases c46 : a0 = 8491
           ·rw [if_pos c46] at H
            have c46b0 : (a0 == 8491) = true := beq_iff_eq.mpr c46
            have c46b1 : (a0 != 8491) = false := bne_eq_false_iff_eq.mpr c46
            clear c46
            obtain rfl := Option.some.inj H
            go_wp2
            go_ret
            exact ⟨by first | rfl | (simp; done) | (simp [*]; done), by repeat (first | exact Drawn0.refl _ | apply Drawn0.step)⟩
           ·rw [if_neg c46] at H
            have c46b0 : (a0 == 8491) = false := beq_eq_false_iff_ne.mpr c46
            have c46b1 : (a0 != 8491) = true := bne_iff_ne.mpr c46
            obtain rfl := Option.some.inj H
            go_wp2
            go_ret
            exact ⟨by first | rfl | (simp; done) | (simp [*]; done), by repeat (first | exact Drawn0.refl _ | apply Drawn0.step)⟩
end Go.Proofs.YtdambnclbpipdaaGreatDoor.X
namespace Go.Proofs.YtdambnclbpipdaaGreatDoor.X
open Go.RowKit Go.Proofs.YtdambnclbpipdaaGreatDoorW.PrintWords Go.Proofs.YtdambnclbpipdaaGreatDoorW.PrintLast Go.Proofs.YtdambnclbpipdaaGreatDoorW.PrintMore
attribute [local go_sem] max2_int min2_int max_two min_two max_three min_three max_four min_four   
set_option linter.unusedVariables false
set_option linter.unusedSimpArgs false
def ucd_Fold.j0 : Nat → Int → Int → Bool → Option (List Int)
 | 0, _, _, _ => none
 | k + 1, x0, x3, x4 => if x4 = true then (some (([115, 115] : List Int))) else (if x3 = 304 then (some (([105, 775] : List Int))) else ((ucd_fold.f k x0).bind fun t245 => (some (([t245] : List Int)))))
def ucd_Fold.f (k : Nat) (a0 : Int) : Option (List Int) := if a0 = 223 then (ucd_Fold.j0 k a0 a0 (a0 == 223)) else (ucd_Fold.j0 k a0 a0 (a0 == 7838))
theorem ucd_Fold.mono_l : ∀ k, (∀ y0 y1 y2, LeO (ucd_Fold.j0 k y0 y1 y2) (ucd_Fold.j0 (k + 1) y0 y1 y2))
 | 0 => fun _ _ _ r h => by simp [ucd_Fold.j0] at h
 | k + 1 => by
  have ih0 := ucd_Fold.mono_l k
  ·intro y0 y1 y2
   unfold ucd_Fold.j0
   repeat' first
   | (with_reducible exact ih0 _ _ _)
   | (with_reducible exact ucd_fold.mono _ _)
   | (with_reducible exact LeO.refl _)
   | (with_reducible exact LeO.none _)
   | (with_reducible refine LeO.ite ?_ ?_)
   | (with_reducible refine LeO.bind ?_ (fun _ => ?_))
   | exact ih0 _ _ _
   | exact ucd_fold.mono _ _
   | exact LeO.none _
   | refine LeO.ite ?_ ?_
   | refine LeO.bind ?_ (fun _ => ?_)
theorem ucd_Fold.mono : ∀ a0 k, LeO (ucd_Fold.f k a0) (ucd_Fold.f (k + 1) a0) := by
 intro a0 k
 have ih0 := ucd_Fold.mono_l k
 unfold ucd_Fold.f
 repeat' first
   | (with_reducible exact ih0 _ _ _)
   | (with_reducible exact ucd_fold.mono _ _)
   | (with_reducible exact LeO.refl _)
   | (with_reducible exact LeO.none _)
   | (with_reducible refine LeO.ite ?_ ?_)
   | (with_reducible refine LeO.bind ?_ (fun _ => ?_))
   | exact ih0 _ _ _
   | exact ucd_fold.mono _ _
   | exact LeO.none _
   | refine LeO.ite ?_ ?_
   | refine LeO.bind ?_ (fun _ => ?_)
set_option maxHeartbeats 8000000 in
set_option maxRecDepth 100000 in
theorem ucd_Fold.calls (k : Nat) (a0 : Int) (r : List Int) (w : World) (h : ucd_Fold.f k a0 = some r) :
  Calls Tryz.prog 115 #[.int .i32 a0] w fun e w' => ∃ v0_ : Value, e = .returned (v0_) ∧ Kd.R (Kd.int .i32) 21 w' w.heap.size (fun _ => True) v0_ r ∧ Below w.heap.size w w' := by
 have HB := Aside0.mk (Below.refl w.heap.size w)
 have H : (if a0 = 223 then (ucd_Fold.j0 k a0 a0 (a0 == 223)) else (ucd_Fold.j0 k a0 a0 (a0 == 7838))) = some r := h
 clear h
 have HC2 := Aside0.mk H
 clear H
 go_enter Tryz.func115, Tryz.ntmps115
 go_upto_if 4 with (fail)
 go_cut [4] (fun v4 wc => ∃ (kq : Nat) (x4_1 : Bool), v4 = .bool x4_1 ∧ Aside0 (ucd_Fold.j0 kq a0 a0 x4_1 = some r) ∧ Aside0 (kq ≤ k) ∧ Aside0 (Below w.heap.size w wc))
 case first =>
  have H := HC2.out
  clear HC2
  by_cases c3 : a0 = 223
  ·rw [if_pos c3] at H
   have c3b0 : (a0 == 223) = true := beq_iff_eq.mpr c3
   have c3b1 : (a0 != 223) = false := bne_eq_false_iff_eq.mpr c3
   clear c3
   (first | rw [c3b0] | (simp only [i64_w, i32_w]; rw [c3b0]) | skip)
   have H' := Aside0.mk H
   clear H
   go_wp2
   go_meet
   case rel => exact ⟨_, ((a0 == 223)), (by first | rfl | (simp; done) | (simp [*]; done)), H', ⟨by first | omega | exact Nat.le_refl _⟩, ⟨by repeat (first | (with_reducible first | exact HB.out | apply below_alloc | apply pw_below_drewN | apply below_drew1) | exact HB.out)⟩⟩
  ·rw [if_neg c3] at H
   have c3b0 : (a0 == 223) = false := beq_eq_false_iff_ne.mpr c3
   have c3b1 : (a0 != 223) = true := bne_iff_ne.mpr c3
   (first | rw [c3b0] | (simp only [i64_w, i32_w]; rw [c3b0]) | skip)
   have H' := Aside0.mk H
   clear H
   go_wp2
   go_meet
   case rel => exact ⟨_, ((a0 == 7838)), (by first | rfl | (simp; done) | (simp [*]; done)), H', ⟨by first | omega | exact Nat.le_refl _⟩, ⟨by repeat (first | (with_reducible first | exact HB.out | apply below_alloc | apply pw_below_drewN | apply below_drew1) | exact HB.out)⟩⟩
 case rest =>
  clear HC2
  try clear c1
  try clear p2
  try clear c3
  try clear c3b0
  try clear c3b1
  obtain ⟨kq, x4_1, rfl, HA, HJ1, HB⟩ := hcut
  cases kq with
  | zero => exact absurd HA.out (by simp [ucd_Fold.j0])
  | succ kj1 =>
   have H := HA.out
   clear HA
   simp only [ucd_Fold.j0] at H
   by_cases c4 : x4_1 = true
   ·subst c4
    have H1 : (some (([115, 115] : List Int))) = some r := by rw [if_pos rfl] at H; exact H
    clear H
    have H := H1
    clear H1
    obtain ⟨y239, hy239⟩ : ∃ y_ : List Int, y_ = (([115, 115] : List Int)) := ⟨_, rfl⟩
    replace H : (some y239) = some r := by first | (rw [hy239]; with_reducible exact H) | (have H2_ := (Option.bind_some _ _).symm.trans H; rw [hy239]; with_reducible exact H2_) | (have H2_ := (Option.bind_some _ _).symm.trans H; with_reducible exact H2_) | with_reducible exact H | (rw [hy239]; exact H) | exact H
    have Ny239 := Aside0.mk hy239
    clear hy239
    obtain rfl := Option.some.inj H
    go_wp2_with (first | ((with_reducible refine gate_dst (N := 7) rfl ?_); refine Kd.R_lit (Kd.int .i32) _ 21 ?hg (N := 7) ?hd (xs := ([115, 115] : List Int)) (inner := [.int .i32 115, .int .i32 115]) (ok := fun _ => True) (okp := fun _ => True) ?hr ?hp (fun _ hk => hk) trivial (Below.refl _ _) (Nat.le_refl _) (by simp) ?_; (case hd => rfl); (case hg => rfl); (case hr => first | (go_simp; done) | (go_simp; rfl)); (case hp => exact (Reps.one (show Kd.M (Kd.int .i32) _ _ _ 115 [.int .i32 115] from rfl) (Reps.one (show Kd.M (Kd.int .i32) _ _ _ 115 [.int .i32 115] from rfl) (Reps.none _ _)))); intro v240 w5 ho6 hb hg_ hnew_; clear hg_ hnew_; (first | rw [← Ny239.out] at ho6 | (simp only [Int.reduceToNat] at ho6; rw [← Ny239.out] at ho6)); have n0_ := Aside0.mk (Kd.R_lower ho6 (below_size (by repeat (first | (with_reducible first | exact HB.out | apply below_alloc | apply pw_below_drewN | apply below_drew1) | exact HB.out)))); have n1_ := Aside0.mk (below_step (by repeat (first | (with_reducible first | exact HB.out | apply below_alloc | apply pw_below_drewN | apply below_drew1) | exact HB.out)) hb); clear HB; have HO241 := n0_; have HB := n1_; clear n0_ n1_; clear hb ho6))
    go_ret
    exact ⟨_, by first | rfl | (simp [errW_none, errW_some] <;> rfl) | (simp [*, errW_none, errW_some] <;> rfl), by (with_reducible repeat (first | apply Kd.R_alloc | apply Kd.R_drewN | apply Kd.R_drew)); exact HO241.out, by repeat (first | (with_reducible first | exact HB.out | apply below_alloc | apply pw_below_drewN | apply below_drew1) | exact HB.out)⟩
   ·replace c4 := Bool.eq_false_iff.mpr c4
    subst c4
    have H1 : (if a0 = 304 then (some (([105, 775] : List Int))) else ((ucd_fold.f kj1 a0).bind fun t245 => (some (([t245] : List Int))))) = some r := by rw [if_neg (show ¬ (false = true) by decide)] at H; exact H
    clear H
    have H := H1
    clear H1
    by_cases c7 : a0 = 304
    ·rw [if_pos c7] at H
     have c7b0 : (a0 == 304) = true := beq_iff_eq.mpr c7
     have c7b1 : (a0 != 304) = false := bne_eq_false_iff_eq.mpr c7
     clear c7
     obtain ⟨y242, hy242⟩ : ∃ y_ : List Int, y_ = (([105, 775] : List Int)) := ⟨_, rfl⟩
     replace H : (some y242) = some r := by first | (rw [hy242]; with_reducible exact H) | (have H2_ := (Option.bind_some _ _).symm.trans H; rw [hy242]; with_reducible exact H2_) | (have H2_ := (Option.bind_some _ _).symm.trans H; with_reducible exact H2_) | with_reducible exact H | (rw [hy242]; exact H) | exact H
     have Ny242 := Aside0.mk hy242
     clear hy242
     obtain rfl := Option.some.inj H
     go_wp2_with (first | ((with_reducible refine gate_dst (N := 10) rfl ?_); refine Kd.R_lit (Kd.int .i32) _ 21 ?hg (N := 10) ?hd (xs := ([105, 775] : List Int)) (inner := [.int .i32 105, .int .i32 775]) (ok := fun _ => True) (okp := fun _ => True) ?hr ?hp (fun _ hk => hk) trivial (Below.refl _ _) (Nat.le_refl _) (by simp) ?_; (case hd => rfl); (case hg => rfl); (case hr => first | (go_simp; done) | (go_simp; rfl)); (case hp => exact (Reps.one (show Kd.M (Kd.int .i32) _ _ _ 105 [.int .i32 105] from rfl) (Reps.one (show Kd.M (Kd.int .i32) _ _ _ 775 [.int .i32 775] from rfl) (Reps.none _ _)))); intro v243 w8 ho9 hb hg_ hnew_; clear hg_ hnew_; (first | rw [← Ny242.out] at ho9 | (simp only [Int.reduceToNat] at ho9; rw [← Ny242.out] at ho9)); have n0_ := Aside0.mk (Kd.R_lower ho9 (below_size (by repeat (first | (with_reducible first | exact HB.out | apply below_alloc | apply pw_below_drewN | apply below_drew1) | exact HB.out)))); have n1_ := Aside0.mk (below_step (by repeat (first | (with_reducible first | exact HB.out | apply below_alloc | apply pw_below_drewN | apply below_drew1) | exact HB.out)) hb); clear HB; have HO244 := n0_; have HB := n1_; clear n0_ n1_; clear hb ho9))
     go_ret
     exact ⟨_, by first | rfl | (simp [errW_none, errW_some] <;> rfl) | (simp [*, errW_none, errW_some] <;> rfl), by (with_reducible repeat (first | apply Kd.R_alloc | apply Kd.R_drewN | apply Kd.R_drew)); exact HO244.out, by repeat (first | (with_reducible first | exact HB.out | apply below_alloc | apply pw_below_drewN | apply below_drew1) | exact HB.out)⟩
    ·rw [if_neg c7] at H
     have c7b0 : (a0 == 304) = false := beq_eq_false_iff_ne.mpr c7
     have c7b1 : (a0 != 304) = true := bne_iff_ne.mpr c7
     replace H := Option.bind_eq_some_iff.mp H
     obtain ⟨t245, A100, H⟩ := H
     replace H : (some (([t245] : List Int))) = some r := H
     have A10 := Aside0.mk A100
     clear A100
     obtain ⟨y246, hy246⟩ : ∃ y_ : List Int, y_ = (([t245] : List Int)) := ⟨_, rfl⟩
     replace H : (some y246) = some r := by first | (rw [hy246]; with_reducible exact H) | (have H2_ := (Option.bind_some _ _).symm.trans H; rw [hy246]; with_reducible exact H2_) | (have H2_ := (Option.bind_some _ _).symm.trans H; with_reducible exact H2_) | with_reducible exact H | (rw [hy246]; exact H) | exact H
     have Ny246 := Aside0.mk hy246
     clear hy246
     obtain rfl := Option.some.inj H
     go_wp2_with (first | ((with_reducible refine gate_callee (f := 152) rfl ?_); refine goesL_ (some 12) rfl rfl Tryz.func152 (by kernel_rfl) rfl #[.int .i32 a0] rfl (by (try simp only [List.map_toArray, List.map_cons, List.map_nil]); first | done | rfl | (simp only [List.length_drop, List.length_take]; rfl)) ?_; (with_reducible refine (ucd_fold.calls kj1 a0 t245 _ A10.out).mono ?_); rintro e w' ⟨rfl, ⟨nd, rfl⟩⟩; refine ⟨_, rfl, ?_⟩) | ((with_reducible refine gate_dst (N := 13) rfl ?_); refine Kd.R_lit (Kd.int .i32) _ 21 ?hg (N := 13) ?hd (xs := ([t245] : List Int)) (inner := [.int .i32 t245]) (ok := fun _ => True) (okp := fun _ => True) ?hr ?hp (fun _ hk => hk) trivial (Below.refl _ _) (Nat.le_refl _) (by simp) ?_; (case hd => rfl); (case hg => rfl); (case hr => first | (go_simp; done) | (go_simp; rfl)); (case hp => exact (Reps.one (show Kd.M (Kd.int .i32) _ _ _ t245 [.int .i32 t245] from rfl) (Reps.none _ _))); intro v247 w11 ho12 hb hg_ hnew_; clear hg_ hnew_; (first | rw [← Ny246.out] at ho12 | (simp only [Int.reduceToNat] at ho12; rw [← Ny246.out] at ho12)); have n0_ := Aside0.mk (Kd.R_lower ho12 (below_size (by repeat (first | (with_reducible first | exact HB.out | apply below_alloc | apply pw_below_drewN | apply below_drew1) | exact HB.out)))); have n1_ := Aside0.mk (below_step (by repeat (first | (with_reducible first | exact HB.out | apply below_alloc | apply pw_below_drewN | apply below_drew1) | exact HB.out)) hb); clear HB; have HO248 := n0_; have HB := n1_; clear n0_ n1_; clear hb ho12))
     go_ret
     exact ⟨_, by first | rfl | (simp [errW_none, errW_some] <;> rfl) | (simp [*, errW_none, errW_some] <;> rfl), by (with_reducible repeat (first | apply Kd.R_alloc | apply Kd.R_drewN | apply Kd.R_drew)); exact HO248.out, by repeat (first | (with_reducible first | exact HB.out | apply below_alloc | apply pw_below_drewN | apply below_drew1) | exact HB.out)⟩
end Go.Proofs.YtdambnclbpipdaaGreatDoor.X
namespace Go.Proofs.YtdambnclbpipdaaGreatDoor.Vef
set_option linter.unusedVariables false
set_option linter.unusedSimpArgs false
open Go.RowKit Go.Proofs.YtdambnclbpipdaaGreatDoorW.PrintWords Go.Proofs.YtdambnclbpipdaaGreatDoor.Hp Go.Proofs.YtdambnclbpipdaaGreatDoor.Va Go.Proofs.YtdambnclbpipdaaGreatDoor.Vc Go.Proofs.YtdambnclbpipdaaGreatDoor.Vd Go.Proofs.YtdambnclbpipdaaGreatDoor.X Go.Proofs.YtdambnclbpipdaaGreatDoor.Ve
def allB (p : Int → Bool) : Nat → Int → Bool
  | 0, a => p a
  | d + 1, a => allB p d a && allB p d (a + 2 ^ d)
theorem allB_at (p : Int → Bool) : ∀ (d : Nat) (a : Int), allB p d a = true → ∀ r, a ≤ r → r < a + 2 ^ d → p r = true
  | 0, a, h, r, h1, h2 => by
    have : r = a := by simp at h2; omega
    subst this
    exact h
  | d + 1, a, h, r, h1, h2 => by
    rw [allB, Bool.and_eq_true] at h
    rw [Int.pow_succ] at h2
    by_cases h3 : r < a + 2 ^ d
    · exact allB_at p d a h.1 r h1 h3
    · exact allB_at p d (a + 2 ^ d) h.2 r (by omega) (by omega)
def foldU (r : Int) : List Int := (ucd_Fold.f 20 r).getD []
theorem fold_out (r : Int) (h : r < 65 ∨ 8492 ≤ r) : ucd_Fold.f 20 r = some [r] := by
  have b1 : decide (r ≤ 90) = decide (r < 65) := by rw [decide_eq_decide]; omega
  have h1 : ucd_fold.f 19 r = some r := by
    rcases h with h | h
    · simp only [ucd_fold.f, ucd_fold.j0, ucd_fold.j1, ucd_fold.j2, ucd_fold.j3, ucd_fold.j4, ucd_fold.j5, ucd_fold.j6, ucd_fold.j7, ucd_fold.j8]
      have e : ∀ k : Int, 65 ≤ k → (r ≥ k) = False := fun k hk => by simp; omega
      have e2 : ∀ k : Int, 65 ≤ k → (r = k) = False := fun k hk => by simp; omega
      simp [e, e2]
    · simp only [ucd_fold.f, ucd_fold.j0, ucd_fold.j1, ucd_fold.j2, ucd_fold.j3, ucd_fold.j4, ucd_fold.j5, ucd_fold.j6, ucd_fold.j7, ucd_fold.j8]
      have e : ∀ k : Int, k ≤ 8491 → (r ≤ k) = False := fun k hk => by simp; omega
      have e2 : ∀ k : Int, k ≤ 8491 → (r = k) = False := fun k hk => by simp; omega
      simp [e, e2]
  have n1 : r ≠ 223 := by omega
  have n2 : r ≠ 7838 := by omega
  have n3 : r ≠ 304 := by omega
  unfold ucd_Fold.f
  rw [if_neg n1, beq_eq_false_iff_ne.2 n2, ucd_Fold.j0, if_neg (by decide), if_neg n3, h1]
  rfl
def foldT (r : Int) : Bool := match ucd_Fold.f 20 r with
  | some l => l.all (fun x => (ucd_Fold.f 20 x == some [x]) && decide (0 ≤ x ∧ x < 10000))
  | none => false
theorem fold_in1 : allB foldT 13 0 = true := by decide +kernel
theorem fold_in2 : allB foldT 9 8192 = true := by decide +kernel
end Go.Proofs.YtdambnclbpipdaaGreatDoor.Vef
namespace Go.Proofs.YtdambnclbpipdaaGreatDoor.Vf
set_option linter.unusedVariables false
set_option linter.unusedSimpArgs false
open Go.RowKit Go.Proofs.YtdambnclbpipdaaGreatDoorW.PrintWords Go.Proofs.YtdambnclbpipdaaGreatDoor.Hp Go.Proofs.YtdambnclbpipdaaGreatDoor.Va Go.Proofs.YtdambnclbpipdaaGreatDoor.Vc Go.Proofs.YtdambnclbpipdaaGreatDoor.Vd Go.Proofs.YtdambnclbpipdaaGreatDoor.Ve Go.Proofs.YtdambnclbpipdaaGreatDoor.Vef Go.Proofs.YtdambnclbpipdaaGreatDoor.X
theorem fold_some (r : Int) : ucd_Fold.f 20 r = some (foldU r) := by
  unfold foldU
  by_cases h : r < 65 ∨ 8492 ≤ r
  · rw [fold_out r h]; rfl
  · have h1 : foldT r = true := by
      by_cases h2 : r < 8192
      · exact allB_at foldT 13 0 fold_in1 r (by omega) (by omega)
      · exact allB_at foldT 9 8192 fold_in2 r (by omega) (by omega)
    unfold foldT at h1
    cases h3 : ucd_Fold.f 20 r with
    | none => rw [h3] at h1; cases h1
    | some l => rfl
theorem fold_range (r : Int) (hr : -2147483648 ≤ r ∧ r ≤ 2147483647) : ∀ x ∈ foldU r, -2147483648 ≤ x ∧ x ≤ 2147483647 := by
  by_cases h : r < 65 ∨ 8492 ≤ r
  · intro x hx
    have : foldU r = [r] := by unfold foldU; rw [fold_out r h]; rfl
    rw [this] at hx
    obtain rfl := List.mem_singleton.1 hx
    exact hr
  · have h1 : foldT r = true := by
      by_cases h2 : r < 8192
      · exact allB_at foldT 13 0 fold_in1 r (by omega) (by omega)
      · exact allB_at foldT 9 8192 fold_in2 r (by omega) (by omega)
    unfold foldT at h1
    rw [fold_some r] at h1
    intro x hx
    have h2 := List.all_eq_true.1 h1 x hx
    rw [Bool.and_eq_true, decide_eq_true_eq] at h2
    omega
end Go.Proofs.YtdambnclbpipdaaGreatDoor.Vf
namespace Go.Proofs.YtdambnclbpipdaaGreatDoor.X
set_option linter.unusedVariables false
set_option linter.unusedSimpArgs false
open Go.RowKit Go.Proofs.YtdambnclbpipdaaGreatDoorW.PrintWords
end Go.Proofs.YtdambnclbpipdaaGreatDoor.X
namespace Go.Proofs.YtdambnclbpipdaaGreatDoor.Vp
set_option linter.unusedVariables false
set_option linter.unusedSimpArgs false
open Go.RowKit Go.Proofs.YtdambnclbpipdaaGreatDoorW.PrintWords Go.Proofs.YtdambnclbpipdaaGreatDoor.Ev0 Go.Proofs.YtdambnclbpipdaaGreatDoor.X Go.Proofs.YtdambnclbpipdaaGreatDoor.Va Go.Proofs.YtdambnclbpipdaaGreatDoor.Vb Go.Proofs.YtdambnclbpipdaaGreatDoor.Vc Go.Proofs.YtdambnclbpipdaaGreatDoor.Vd Go.Proofs.YtdambnclbpipdaaGreatDoor.Ve Go.Proofs.YtdambnclbpipdaaGreatDoor.Vef Go.Proofs.YtdambnclbpipdaaGreatDoor.Vf Go.Proofs.YtdambnclbpipdaaGreatDoor.Vp0
theorem foldEv (r : Int) : Ev (fun k => ucd_Fold.f k r) (foldU r) := Ev.of (ucd_Fold.mono r) (fold_some r)
theorem fold_len1 : allB (fun r => decide ((foldU r).length ≤ 2)) 13 0 = true := by decide +kernel
theorem fold_len2 : allB (fun r => decide ((foldU r).length ≤ 2)) 9 8192 = true := by decide +kernel
theorem fold_len (r : Int) : (foldU r).length ≤ 2 := by
  by_cases h : r < 65 ∨ 8492 ≤ r
  · have : foldU r = [r] := by unfold foldU; rw [fold_out r h]; rfl
    rw [this]; simp
  · by_cases h2 : r < 8192
    · exact of_decide_eq_true (allB_at _ 13 0 fold_len1 r (by omega) (by omega))
    · exact of_decide_eq_true (allB_at _ 9 8192 fold_len2 r (by omega) (by omega))
end Go.Proofs.YtdambnclbpipdaaGreatDoor.Vp
namespace Go.Proofs.YtdambnclbpipdaaGreatDoor.Wa
set_option linter.unusedVariables false
set_option linter.unusedSimpArgs false
open Go.Proofs.YtdambnclbpipdaaGreatDoor.Ux (Bytes full)
open Go.Proofs.YtdambnclbpipdaaGreatDoor.Ve (opn)
open Go.Proofs.YtdambnclbpipdaaGreatDoor.Vd (decU)
open Go.Proofs.YtdambnclbpipdaaGreatDoor.Vef (foldU allB allB_at fold_out)
open Go.Proofs.YtdambnclbpipdaaGreatDoor.Vp (fold_len)
open Go.Proofs.YtdambnclbpipdaaGreatDoor.Vf (fold_range)
open Go.Proofs.YtdambnclbpipdaaGreatDoor.Ot (rns)
open Go.Proofs.YtdambnclbpipdaaGreatDoor.En (vld enc enc_len enc_byte enc_append)
open Go.Proofs.YtdambnclbpipdaaGreatDoor.Na (ordL_mem ordL)
open Go.RowKit Go.Proofs.YtdambnclbpipdaaGreatDoorW.PrintWords Go.Proofs.YtdambnclbpipdaaGreatDoor.Ev0 Go.Proofs.YtdambnclbpipdaaGreatDoor.X Go.Proofs.YtdambnclbpipdaaGreatDoor.Oa Go.Proofs.YtdambnclbpipdaaGreatDoor.Vp0 Go.Proofs.YtdambnclbpipdaaGreatDoor.Sga Go.Proofs.YtdambnclbpipdaaGreatDoor.Sgp Go.Proofs.YtdambnclbpipdaaGreatDoor.Sgt Go.Proofs.YtdambnclbpipdaaGreatDoor.Sgv Go.Proofs.YtdambnclbpipdaaGreatDoor.Sgw Go.Proofs.YtdambnclbpipdaaGreatDoor.Sgu
def fl2 (l : List Int) : List Int := l.flatMap foldU
theorem fl2_len (l : List Int) : (fl2 l).length ≤ 2 * l.length := by
  induction l with
  | nil => simp [fl2]
  | cons x t ih =>
    have := fold_len x
    unfold fl2 at ih ⊢
    rw [List.flatMap_cons, List.length_append, List.length_cons]
    omega
theorem fl2_32 (l : List Int) (h : ∀ x ∈ l, I32 x) : ∀ x ∈ fl2 l, I32 x := fun y hy => by
  obtain ⟨x, hx, hy⟩ := List.mem_flatMap.1 hy
  exact fold_range x (h x hx) y hy
def keyU (l : List Int) : List Int := nrm (fl2 (nrm l))
theorem nrm_32 (l : List Int) (h : ∀ x ∈ l, I32 x) : ∀ x ∈ nrm l, I32 x := fun x hx => (nrm_bot l h x hx).2
theorem keyU_len (l : List Int) (h : ∀ x ∈ l, I32 x) : (keyU l).length ≤ 18 * l.length := by
  have h1 := nrm_len3 l h
  have h2 := fl2_len (nrm l)
  have h3 := nrm_len3 (fl2 (nrm l)) (fl2_32 _ (nrm_32 l h))
  show (nrm (fl2 (nrm l))).length ≤ _
  omega
def keyB (b : List Int) : List Int := enc (keyU (rns b))
def keyS (b : List Int) : ByteArray := strOfNums (keyB b)
theorem keyB_byte (b : List Int) : Bytes (keyB b) := enc_byte _
theorem keyB_len (b : List Int) (hB : Bytes b) : (keyB b).length ≤ 72 * b.length := by
  have h1 := keyU_len (rns b) (r32 b hB)
  have h2 := rns_len b
  have h3 := (enc_len (keyU (rns b))).2
  unfold keyB
  omega
theorem txt_nfd (b : List Int) : txt (rns b) = strOfNums (nfd b) := rfl
theorem str_size {l : List Int} (h : Bytes l) : (strOfNums l).size = l.length := by rw [← bytesOf_length, Ot.bytes_str l h]
theorem keyS_size (b : List Int) (hB : Bytes b) : (keyS b).size ≤ 72 * b.length := by unfold keyS; rw [str_size (keyB_byte b)]; exact keyB_len b hB
end Go.Proofs.YtdambnclbpipdaaGreatDoor.Wa
namespace Go.Proofs.YtdambnclbpipdaaGreatDoor.Wb
set_option linter.unusedVariables false
set_option linter.unusedSimpArgs false
open Go.Proofs.YtdambnclbpipdaaGreatDoor.Ux (Bytes full)
open Go.Proofs.YtdambnclbpipdaaGreatDoor.Ve (opn)
open Go.Proofs.YtdambnclbpipdaaGreatDoor.Vb (cat)
open Go.Proofs.YtdambnclbpipdaaGreatDoor.Ot (rns)
open Go.RowKit Go.Proofs.YtdambnclbpipdaaGreatDoorW.PrintWords Go.Proofs.YtdambnclbpipdaaGreatDoor.X Go.Proofs.YtdambnclbpipdaaGreatDoor.Vp0 Go.Proofs.YtdambnclbpipdaaGreatDoor.Sga Go.Proofs.YtdambnclbpipdaaGreatDoor.Sgb Go.Proofs.YtdambnclbpipdaaGreatDoor.Sgp Go.Proofs.YtdambnclbpipdaaGreatDoor.Sgt Go.Proofs.YtdambnclbpipdaaGreatDoor.Sgv Go.Proofs.YtdambnclbpipdaaGreatDoor.Sgw Go.Proofs.YtdambnclbpipdaaGreatDoor.Wa
def kindU : List Int → Int
  | [] => 0
  | x :: _ => if x = 95 then 3 else if cat x = 1 then 1 else if cat x = 3 then 2 else 0
def kindF (s : ByteArray) : Int := kindU (rns (bytesOf s))
def jointF (s : ByteArray) : Int := if s = ⟨#[39]⟩ ∨ s = ⟨#[226, 128, 153]⟩ ∨ s = ⟨#[194, 183]⟩ then 1 else if s = ⟨#[46]⟩ ∨ s = ⟨#[44]⟩ then 2 else 0
def T (l : List ByteArray) (i : Nat) : ByteArray := l.getD i ⟨#[]⟩
def inW (l : List ByteArray) (i : Nat) : Bool := decide (kindF (T l i) ≠ 0) || (decide (jointF (T l i) ≠ 0) && decide (0 < i) && decide (i + 1 < l.length) && decide (kindF (T l (i - 1)) = jointF (T l i)) && decide (kindF (T l (i + 1)) = jointF (T l i)))
def runs (fl : Nat → Bool) : Nat → Nat → Option Nat → List (Nat × Nat)
  | 0, _, none => []
  | 0, i, some f => [(f, i)]
  | q + 1, i, none => if fl i = true then runs fl q (i + 1) (some i) else runs fl q (i + 1) none
  | q + 1, i, some f => if fl i = true then runs fl q (i + 1) (some f) else (f, i) :: runs fl q (i + 1) none
def Apart (N : Nat) : Nat → List (Nat × Nat) → Prop
  | _, [] => True
  | n, p :: r => n ≤ p.1 ∧ p.1 < p.2 ∧ p.2 ≤ N ∧ Apart N (p.2 + 1) r
theorem runs_len (fl : Nat → Bool) : ∀ (q i : Nat), (runs fl q i none).length ≤ q ∧ ∀ f, (runs fl q i (some f)).length ≤ q + 1
  | 0, i => ⟨Nat.le_refl _, fun f => Nat.le_refl _⟩
  | q + 1, i => by
    have ih := runs_len fl q (i + 1)
    constructor
    · rw [runs]
      split
      · exact ih.2 i
      · exact Nat.le_succ_of_le ih.1
    · intro f
      rw [runs]
      split
      · exact Nat.le_succ_of_le (ih.2 f)
      · rw [List.length_cons]; omega
def runsT (l : List ByteArray) : List (Nat × Nat) := runs (inW l) l.length 0 none
def catR (l : List ByteArray) (f t : Nat) : ByteArray := catB ((l.take t).drop f)
def keyR (l : List ByteArray) (f t : Nat) : ByteArray := keyS (bytesOf (catR l f t))
theorem Apart.mem {N : Nat} : ∀ {l : List (Nat × Nat)} {n : Nat}, Apart N n l → ∀ p ∈ l, n ≤ p.1 ∧ p.1 < p.2 ∧ p.2 ≤ N
  | [], _, _, p, hp => by cases hp
  | q :: r, n, h, p, hp => by
    rcases List.mem_cons.1 hp with rfl | hp
    · exact ⟨h.1, h.2.1, h.2.2.1⟩
    · have := Apart.mem h.2.2.2 p hp
      exact ⟨by have := h.1; have := h.2.1; omega, this.2⟩
theorem Apart.next {N : Nat} : ∀ {l : List (Nat × Nat)} {n : Nat}, Apart N n l → ∀ i (h : i + 1 < l.length), l[i].2 < l[i + 1].1
  | [], _, _, i, h => by simp at h
  | [p], _, _, i, h => by simp at h
  | p :: q :: r, n, hh, 0, h => hh.2.2.2.1
  | p :: q :: r, n, hh, i + 1, h => Apart.next hh.2.2.2 i (by simpa using h)
def FillO (b : List Int) : Nat → Bool → List SG → Prop
  | a, _, [] => a ≤ b.length
  | a, o, s :: l => s.f1 = a ∧ ∃ (e : Nat) (rs : List Int), s.f2 = e ∧ a < e ∧ e ≤ b.length ∧ s.f0 = txt rs ∧ Inv b a e rs ∧ (o = true → ∃ x u, rs = x :: u ∧ opn x = true) ∧ FillO b e true l
theorem FillO.take {b : List Int} : ∀ {l : List SG} {a : Nat} {o : Bool} (k : Nat), FillO b a o l → FillO b a o (l.take k)
  | [], a, o, k, h => by rw [List.take_nil]; exact h
  | s :: l, a, o, 0, h => by
    obtain ⟨-, e, rs, -, h2, h3, -⟩ := h
    show a ≤ b.length
    omega
  | s :: l, a, o, k + 1, h => by
    obtain ⟨h1, e, rs, h2, h3, h4, h5, h6, h7, h8⟩ := h
    exact ⟨h1, e, rs, h2, h3, h4, h5, h6, h7, h8.take k⟩
theorem inv_app {b : List Int} {a e d : Nat} {r s : List Int} (h : Inv b a e r) (h2 : Inv b e d s) (hed : e ≤ d) : Inv b a d (r ++ s) := by
  intro m hm
  rw [h m (by omega), h2 m hm, List.append_assoc]
theorem FillO.range {b : List Int} : ∀ {l : List SG} {a : Nat} {o : Bool}, FillO b a o l → ∀ m (hm : m < l.length), ∃ (e : Nat) (rs : List Int), l[m].f2 = e ∧ a < e ∧ e ≤ b.length ∧ catB ((l.take (m + 1)).map (·.f0)) = txt rs ∧ Inv b a e rs ∧ (o = true → ∃ x u, rs = x :: u ∧ opn x = true) ∧ FillO b e true (l.drop (m + 1))
  | [], a, o, h, m, hm => by simp at hm
  | s :: l, a, o, h, 0, hm => by
    obtain ⟨h1, e, rs, h2, h3, h4, h5, h6, h7, h8⟩ := h
    refine ⟨e, rs, h2, h3, h4, ?_, h6, h7, h8⟩
    rw [← h5]
    refine ba_ext ?_
    show (s.f0 ++ (⟨#[]⟩ : ByteArray)).data.toList = _
    rw [ba_app]
    simp
  | s :: l, a, o, h, m + 1, hm => by
    obtain ⟨h1, e, rs, h2, h3, h4, h5, h6, h7, h8⟩ := h
    obtain ⟨e2, rs2, q2, q3, q4, q5, q6, q7, q8⟩ := FillO.range h8 m (by simpa using hm)
    obtain ⟨x, u, rfl, hx⟩ := q7 rfl
    refine ⟨e2, rs ++ x :: u, q2, by omega, q4, ?_, inv_app h6 q6 (by omega), fun ho => ?_, q8⟩
    · rw [txt_app rs (x :: u) x u rfl hx, ← q5, ← h5]
      rfl
    · obtain ⟨y, v, rfl, hy⟩ := h7 ho
      exact ⟨y, v ++ x :: u, rfl, hy⟩
theorem FillO.at {b : List Int} : ∀ {l : List SG} {a : Nat} {o : Bool}, FillO b a o l → ∀ m (hm : m < l.length), ∃ (c : Nat) (p : Bool), l[m].f1 = c ∧ a ≤ c ∧ FillO b c p (l.drop m)
  | [], a, o, h, m, hm => by simp at hm
  | s :: l, a, o, h, 0, hm => ⟨a, o, h.1, Nat.le_refl _, h⟩
  | s :: l, a, o, h, m + 1, hm => by
    obtain ⟨h1, e, rs, h2, h3, h4, h5, h6, h7, h8⟩ := h
    obtain ⟨c, p, q1, q2, q3⟩ := FillO.at h8 m (by simpa using hm)
    exact ⟨c, p, q1, by omega, q3⟩
end Go.Proofs.YtdambnclbpipdaaGreatDoor.Wb
namespace Go.Proofs.YtdambnclbpipdaaGreatDoor.Vtf
set_option linter.unusedVariables false
set_option linter.unusedSimpArgs false
open Go.Proofs.YtdambnclbpipdaaGreatDoor.Vef (foldU allB allB_at fold_out)
open Go.RowKit Go.Proofs.YtdambnclbpipdaaGreatDoorW.PrintWords Go.Proofs.YtdambnclbpipdaaGreatDoor.Hp Go.Proofs.YtdambnclbpipdaaGreatDoor.X
open Go.Proofs.YtdambnclbpipdaaGreatDoor.Vin (inB)
abbrev KI : Kd Int := Kd.int .i32
abbrev T3 : Nat := 21
def q1 (r : Int) : Bool := inB r 65 90 || inB r 192 214 || inB r 216 222 || inB r 913 929 || inB r 931 937 || inB r 1040 1071
def q3 (r : Int) : Bool := (Int.tmod r 2 == 0) && (inB r 256 302 || inB r 306 310 || inB r 330 374 || inB r 7680 7828)
def q4 (r : Int) : Bool := (Int.tmod r 2 == 1) && (inB r 313 327 || inB r 377 381)
end Go.Proofs.YtdambnclbpipdaaGreatDoor.Vtf
namespace Go.Proofs.YtdambnclbpipdaaGreatDoor.X
open Go.RowKit Go.Proofs.YtdambnclbpipdaaGreatDoorW.PrintWords Go.Proofs.YtdambnclbpipdaaGreatDoorW.PrintLast Go.Proofs.YtdambnclbpipdaaGreatDoorW.PrintMore
attribute [local go_sem] max2_int min2_int max_two min_two max_three min_three max_four min_four   
set_option linter.unusedVariables false
set_option linter.unusedSimpArgs false
def words_Key.l0 : Nat → List Int → List Int → Int → Int → Option (ByteArray)
 | 0, _, _, _, _ => none
 | k + 1, x3, x9, x10, x11 => if x11 < x10 then (if 0 ≤ x11 then (if x11 < (x9.length : Int) then ((ucd_Fold.f k (rd x9 x11)).bind fun t279 => (if x3.length + t279.length < 35184372088832 then (words_Key.l0 k (x3 ++ t279) x9 x10 (wrap64 (x11 + 1))) else (none))) else (none)) else (none)) else ((norm_Normal.f k x3).bind fun t285 => ((utf_Encode.f k t285).bind fun t288 => (some (strOfNums t288))))
def words_Key.f (k : Nat) (l0 : List Int) : Option (ByteArray) := (norm_Runes.f (strOfNums l0)).bind fun t272 => ((norm_Normal.f k t272).bind fun t275 => (words_Key.l0 k ([] : List Int) t275 (t275.length : Int) 0))
theorem words_Key.mono_l : ∀ k, (∀ y0 y1 y2 y3, LeO (words_Key.l0 k y0 y1 y2 y3) (words_Key.l0 (k + 1) y0 y1 y2 y3))
 | 0 => fun _ _ _ _ r h => by simp [words_Key.l0] at h
 | k + 1 => by
  have ih0 := words_Key.mono_l k
  ·intro y0 y1 y2 y3
   unfold words_Key.l0
   repeat' first
   | (with_reducible exact ih0 _ _ _ _)
   | (with_reducible exact norm_Normal.mono _ _)
   | (with_reducible exact ucd_Fold.mono _ _)
   | (with_reducible exact utf_Encode.mono _ _)
   | (with_reducible exact LeO.refl _)
   | (with_reducible exact LeO.none _)
   | (with_reducible refine LeO.ite ?_ ?_)
   | (with_reducible refine LeO.bind ?_ (fun _ => ?_))
   | exact ih0 _ _ _ _
   | exact norm_Normal.mono _ _
   | exact ucd_Fold.mono _ _
   | exact utf_Encode.mono _ _
   | exact LeO.none _
   | refine LeO.ite ?_ ?_
   | refine LeO.bind ?_ (fun _ => ?_)
theorem words_Key.mono : ∀ a0 k, LeO (words_Key.f k a0) (words_Key.f (k + 1) a0) := by
 intro a0 k
 have ih0 := words_Key.mono_l k
 unfold words_Key.f
 repeat' first
   | (with_reducible exact ih0 _ _ _ _)
   | (with_reducible exact norm_Normal.mono _ _)
   | (with_reducible exact ucd_Fold.mono _ _)
   | (with_reducible exact utf_Encode.mono _ _)
   | (with_reducible exact LeO.refl _)
   | (with_reducible exact LeO.none _)
   | (with_reducible refine LeO.ite ?_ ?_)
   | (with_reducible refine LeO.bind ?_ (fun _ => ?_))
   | exact ih0 _ _ _ _
   | exact norm_Normal.mono _ _
   | exact ucd_Fold.mono _ _
   | exact utf_Encode.mono _ _
   | exact LeO.none _
   | refine LeO.ite ?_ ?_
   | refine LeO.bind ?_ (fun _ => ?_)
set_option maxHeartbeats 8000000 in
set_option maxRecDepth 100000 in
theorem words_Key.calls (k : Nat) (A0 : Option Addr) (c0 : Nat) (l0 : List Int) (r : ByteArray) (w : World) (hr0 : Kd.C (Kd.int .u8) w A0 l0.length l0) (hc0 : l0.length ≤ c0) (h : words_Key.f k l0 = some r) (hG0 : Va.G w) :
  Calls Tryz.prog 95 #[.slice A0 l0.length c0] w fun e w' => e = .returned (.string r) ∧ Below w.heap.size w w' := by
 have HG := Aside0.mk hG0
 clear hG0
 have HR0 := Aside0.mk hr0
 have HC0 := Aside0.mk hc0
 clear hr0 hc0
 have HB := Aside0.mk (Below.refl w.heap.size w)
 have H : ((norm_Runes.f (strOfNums l0)).bind fun t272 => ((norm_Normal.f k t272).bind fun t275 => (words_Key.l0 k ([] : List Int) t275 (t275.length : Int) 0))) = some r := h
 clear h
 replace H := Option.bind_eq_some_iff.mp H
 obtain ⟨t272, A20, H⟩ := H
 replace H : ((norm_Normal.f k t272).bind fun t275 => (words_Key.l0 k ([] : List Int) t275 (t275.length : Int) 0)) = some r := H
 have A2 := Aside0.mk A20
 clear A20
 replace H := Option.bind_eq_some_iff.mp H
 obtain ⟨t275, A30, H⟩ := H
 replace H : (words_Key.l0 k ([] : List Int) t275 (t275.length : Int) 0) = some r := H
 have A3 := Aside0.mk A30
 clear A30
 have H' := Aside0.mk H
 clear H
 have hcv4 := Kd.C_string (P := Tryz.prog) (A := A0) (c := c0) Tryz.underlying28 Tryz.underlying5 Tryz.underlying9 HR0.out
 go_enter Tryz.func95, Tryz.ntmps95
 go_wp2_with (first | ((with_reducible refine gate_callee (f := 114) rfl ?_); refine goesL_ (some 8) rfl rfl Tryz.func114 (by kernel_rfl) rfl #[.string (strOfNums l0)] rfl (by (try simp only [List.map_toArray, List.map_cons, List.map_nil]); first | done | rfl | (simp only [List.length_drop, List.length_take]; rfl)) ?_; (with_reducible refine (norm_Runes.calls (strOfNums l0) t272 _ A2.out).mono ?_); rintro e w5 ⟨v273, rfl, ho0, hb⟩; refine ⟨_, rfl, ?_⟩; have n0_ := Aside0.mk (Kd.R_lower ho0 (below_size (by repeat (first | (with_reducible first | exact HB.out | apply below_alloc | apply pw_below_drewN | apply below_drew1) | exact HB.out)))); have n1_ := Aside0.mk (below_step (by repeat (first | (with_reducible first | exact HB.out | apply below_alloc | apply pw_below_drewN | apply below_drew1) | exact HB.out)) hb); clear HB; have HO274 := n0_; have HB := n1_; clear n0_ n1_; (try clear hb); (try clear hb2); (try clear hk); (try clear hi); (try clear ho0); obtain ⟨Ao6, co6, eo6⟩ := Kd.R_slice HO274.out; subst eo6) | ((with_reducible refine gate_callee (f := 113) rfl ?_); refine goesL_ (some 9) rfl rfl Tryz.func113 (by kernel_rfl) rfl #[.slice Ao6 t272.length co6] rfl (by (try simp only [List.map_toArray, List.map_cons, List.map_nil]); first | done | rfl | (simp only [List.length_drop, List.length_take]; rfl)) ?_; (with_reducible refine (norm_Normal.calls k _ _ t272 t275 _ ?side1 ?side2 A3.out (by first | exact HG.out | exact Va.G.below HG.out (by repeat (first | (with_reducible first | exact HB.out | apply below_alloc | apply pw_below_drewN | apply below_drew1) | exact HB.out)))).mono ?_); (case side1 => repeat (first | exact (Kd.R_reads' HO274.out).2.2 | (with_reducible refine Kd.C_alloc ?_ _) | (with_reducible refine Kd.C_drewN ?_ _) | (with_reducible refine Kd.C_drew ?_))); (case side2 => exact (Kd.R_reads' HO274.out).2.1); rintro e w7 ⟨v276, rfl, ho0, hb⟩; refine ⟨_, rfl, ?_⟩; have n0_ := Aside0.mk (Kd.R_elder' (by (with_reducible repeat (first | apply Kd.R_alloc | apply Kd.R_drewN | apply Kd.R_drew)); exact HO274.out) (Kd.R_base ho0) hb); have n1_ := Aside0.mk (Kd.R_lower (Kd.R_new' ho0 (Kd.R_lt (by (with_reducible repeat (first | apply Kd.R_alloc | apply Kd.R_drewN | apply Kd.R_drew)); exact HO274.out))) (below_size (by repeat (first | (with_reducible first | exact HB.out | apply below_alloc | apply pw_below_drewN | apply below_drew1) | exact HB.out)))); have n2_ := Aside0.mk (below_step (by repeat (first | (with_reducible first | exact HB.out | apply below_alloc | apply pw_below_drewN | apply below_drew1) | exact HB.out)) hb); clear HO274; clear HB; have HO274 := n0_; have HO277 := n1_; have HB := n2_; clear n0_ n1_ n2_; (try clear hb); (try clear hb2); (try clear hk); (try clear hi); (try clear ho0); obtain ⟨Ao8, co8, eo8⟩ := Kd.R_slice HO277.out; subst eo8))
 go_loopg [3, 11] k (fun kq v3 v11 w' => ∃ (x3_1 : List Int) (x11_1 : Int), v11 = .int .i64 x11_1 ∧ Aside0 (words_Key.l0 kq x3_1 t275 (t275.length : Int) x11_1 = some r) ∧ Aside0 (kq ≤ k) ∧ Aside0 (Kd.R (Kd.int .i32) 21 w' w.heap.size (fun k_ => some k_ ≠ ((.slice Ao8 t275.length co8) : Value).ownBlock) v3 x3_1) ∧ Aside0 (Kd.R (Kd.int .i32) 21 w' w.heap.size (fun k_ => some k_ ≠ (v3 : Value).ownBlock) (.slice Ao8 t275.length co8) t275) ∧ Aside0 (Below w.heap.size w w'))
 case atStart => exact ⟨(([] : List Int)), (0), (by first | rfl | (simp; done) | (simp [*]; done)), H', ⟨Nat.le_refl _⟩, ⟨by first | exact Kd.R_nil _ _ _ _ _ | exact Kd.N_nil _ _ _ _ _ | exact Kd.V_nil _ _ _ _ _ | exact Kd.Q_nil _ _ _ _ _ | exact Kd.S_nil _ _ _ _ _⟩, ⟨by (with_reducible repeat (first | apply Kd.R_alloc | apply Kd.R_drewN | apply Kd.R_drew)); exact Kd.R_mono HO277.out (fun _ hk => (by simp [Value.ownBlock]))⟩, ⟨by repeat (first | (with_reducible first | exact HB.out | apply below_alloc | apply pw_below_drewN | apply below_drew1) | exact HB.out)⟩⟩
 case round =>
  clear H'
  try clear c1
  try clear p2
  try clear hcv4
  obtain ⟨x3_1, x11_1, rfl, HA, HK1, HO_3, HO_9, HB⟩ := hrel
  cases gk with
  | zero => exact absurd HA.out (by simp [words_Key.l0])
  | succ k1 =>
   have H := HA.out
   clear HA
   simp only [words_Key.l0] at H
   by_cases c9 : x11_1 < (t275.length : Int)
   ·rw [if_pos c9] at H
    have c9b0 : decide (x11_1 < (t275.length : Int)) = true := decide_eq_true c9
    clear c9
    by_cases c10 : 0 ≤ x11_1
    ·rw [if_pos c10] at H
     have c10b0 : decide (0 ≤ x11_1) = true := decide_eq_true c10
     clear c10
     by_cases c11 : x11_1 < (t275.length : Int)
     ·rw [if_pos c11] at H
      have c11b0 : decide (x11_1 < (t275.length : Int)) = true := decide_eq_true c11
      clear c11
      replace H := Option.bind_eq_some_iff.mp H
      obtain ⟨t279, A120, H⟩ := H
      replace H : (if x3_1.length + t279.length < 35184372088832 then (words_Key.l0 k1 (x3_1 ++ t279) t275 (t275.length : Int) (wrap64 (x11_1 + 1))) else (none)) = some r := H
      have A12 := Aside0.mk A120
      clear A120
      by_cases c13 : x3_1.length + t279.length < 35184372088832
      ·rw [if_pos c13] at H
       have LMc13 := Aside0.mk c13
       clear c13
       obtain ⟨y282, hy282⟩ : ∃ y_ : List Int, y_ = (x3_1 ++ t279) := ⟨_, rfl⟩
       replace H : (words_Key.l0 k1 y282 t275 (t275.length : Int) (wrap64 (x11_1 + 1))) = some r := by first | (rw [hy282]; with_reducible exact H) | (have H2_ := (Option.bind_some _ _).symm.trans H; rw [hy282]; with_reducible exact H2_) | (have H2_ := (Option.bind_some _ _).symm.trans H; with_reducible exact H2_) | with_reducible exact H | (rw [hy282]; exact H) | exact H
       have Ny282 := Aside0.mk hy282
       clear hy282
       have H' := Aside0.mk H
       clear H
       have p278 : 0 ≤ (x11_1 : Int) := of_decide_eq_true (by first | (with_reducible assumption) | assumption)
       have q278 : x11_1 < (t275.length : Int) := of_decide_eq_true (by first | (with_reducible assumption) | assumption)
       obtain ⟨ad278, e278, hx278_0⟩ := Kd.at_int (Kd.R_reads' HO_9.out).2.2 x11_1 p278 q278
       cases e278
       replace p278 := eq_true p278
       replace q278 := eq_true q278
       go_wp2_with (first | ((with_reducible refine gate_callee (f := 115) rfl ?_); refine goesL_ (some 17) rfl rfl Tryz.func115 (by kernel_rfl) rfl #[.int .i32 (rd t275 x11_1)] rfl (by (try simp only [List.map_toArray, List.map_cons, List.map_nil]); first | done | rfl | (simp only [List.length_drop, List.length_take]; rfl)) ?_; (with_reducible refine (ucd_Fold.calls k1 (rd t275 x11_1) t279 _ A12.out).mono ?_); rintro e w14 ⟨v280, rfl, ho0, hb⟩; refine ⟨_, rfl, ?_⟩; have n0_ := Aside0.mk (Kd.R_elder' (by (with_reducible repeat (first | apply Kd.R_alloc | apply Kd.R_drewN | apply Kd.R_drew)); exact HO_3.out) (Kd.R_base ho0) hb); have n1_ := Aside0.mk (Kd.R_elder' (by (with_reducible repeat (first | apply Kd.R_alloc | apply Kd.R_drewN | apply Kd.R_drew)); exact HO_9.out) (Kd.R_base ho0) hb); have n2_ := Aside0.mk (Kd.R_lower (Kd.R_new' (Kd.R_new' ho0 (Kd.R_lt (by (with_reducible repeat (first | apply Kd.R_alloc | apply Kd.R_drewN | apply Kd.R_drew)); exact HO_3.out))) (Kd.R_lt (by (with_reducible repeat (first | apply Kd.R_alloc | apply Kd.R_drewN | apply Kd.R_drew)); exact HO_9.out))) (below_size (by repeat (first | (with_reducible first | exact HB.out | apply below_alloc | apply pw_below_drewN | apply below_drew1) | exact HB.out)))); have n3_ := Aside0.mk (below_step (by repeat (first | (with_reducible first | exact HB.out | apply below_alloc | apply pw_below_drewN | apply below_drew1) | exact HB.out)) hb); clear HO_3; clear HO_9; clear HB; have HO_3 := n0_; have HO_9 := n1_; have HO281 := n2_; have HB := n3_; clear n0_ n1_ n2_ n3_; (try clear hb); (try clear hb2); (try clear hk); (try clear hi); (try clear ho0); obtain ⟨Ao16, co16, eo16⟩ := Kd.R_slice HO281.out; subst eo16) | ((with_reducible refine gate_builtin (b := .append) (xs := #[.tmp 15, .tmp 17]) rfl ?_); at_builtin; refine Kd.R_append_rows (Kd.int .i32) (w0 := w) w.heap.size rfl (.tmp 15) (.tmp 17) 167 21 (.int .i32 0) 4 rfl Tryz.underlying167 info21 rfl (by decide) (by omega) u3 x3_1 t279 _ _ _ (fun k_ => some k_ ≠ (.slice (some ad278) t275.length co8 : Value).ownBlock ∧ some k_ ≠ (.slice Ao16 t279.length co16 : Value).ownBlock) (fun _ => False) rfl rfl ?aO ?aR (fun _ _ h => h) (fun _ h => h.elim) ?aF ?aB ?aS ?aL ?_; (case aR => repeat (first | exact (Kd.R_reads' HO281.out).2.2 | (with_reducible refine Kd.C_alloc ?_ _) | (with_reducible refine Kd.C_drewN ?_ _) | (with_reducible refine Kd.C_drew ?_))); (case aB => exact (by repeat (first | (with_reducible first | exact HB.out | apply below_alloc | apply pw_below_drewN | apply below_drew1) | exact HB.out))); (case aF => exact (fun k_ hk => ⟨Kd.fresh' (Kd.R_lt (by (with_reducible repeat (first | apply Kd.R_alloc | apply Kd.R_drewN | apply Kd.R_drew)); exact HO_9.out)) k_ hk, Kd.fresh' (Kd.R_lt (by (with_reducible repeat (first | apply Kd.R_alloc | apply Kd.R_drewN | apply Kd.R_drew)); exact HO281.out)) k_ hk⟩)); (case aO => exact (by (with_reducible repeat (first | apply Kd.R_alloc | apply Kd.R_drewN | apply Kd.R_drew)); exact HO_3.out)); (case aS => exact (below_size (by repeat (first | (with_reducible first | exact HB.out | apply below_alloc | apply pw_below_drewN | apply below_drew1) | exact HB.out)))); (case aL => have := LMc13.out; omega); intro v283 w15 ho hb hg hat; rw [← Ny282.out] at ho; have n0_ := Aside0.mk (Kd.R_after (ok := (fun k_ => some k_ ≠ (.slice Ao16 t279.length co16 : Value).ownBlock)) (by (with_reducible repeat (first | apply Kd.R_alloc | apply Kd.R_drewN | apply Kd.R_drew)); exact Kd.R_mono HO_9.out (fun _ hk => ⟨hk.2, hk.1⟩)) hg hat); have n1_ := Aside0.mk (Kd.R_after (ok := (fun k_ => some k_ ≠ (.slice (some ad278) t275.length co8 : Value).ownBlock)) (by (with_reducible repeat (first | apply Kd.R_alloc | apply Kd.R_drewN | apply Kd.R_drew)); exact Kd.R_mono HO281.out (fun _ hk => ⟨hk.2, hk.1.2⟩)) hg hat); have n2_ := Aside0.mk (hb); have n3_ := Aside0.mk (ho); clear HO_9; clear HO281; clear HB; clear HO_3; have HO_9 := n0_; have HO281 := n1_; have HB := n2_; have HO284 := n3_; clear n0_ n1_ n2_ n3_; clear ho hb hg hat))
       go_roundg k1
       case measure => have := HK1.out; omega
       case rel => exact ⟨(y282), (wrap64 (x11_1 + 1)), (by first | rfl | (simp; done) | (simp [*]; done)), H', ⟨by have := HK1.out; omega⟩, ⟨by (with_reducible repeat (first | apply Kd.R_alloc | apply Kd.R_drewN | apply Kd.R_drew)); exact Kd.R_mono HO284.out (fun _ hk => hk.1)⟩, ⟨by (with_reducible repeat (first | apply Kd.R_alloc | apply Kd.R_drewN | apply Kd.R_drew)); exact Kd.R_mono HO_9.out (fun _ hk => hk.2)⟩, ⟨by repeat (first | (with_reducible first | exact HB.out | apply below_alloc | apply pw_below_drewN | apply below_drew1) | exact HB.out)⟩⟩
      ·rw [if_neg c13] at H
       exact absurd H (by simp)
     ·rw [if_neg c11] at H
      exact absurd H (by simp)
    ·rw [if_neg c10] at H
     exact absurd H (by simp)
   ·rw [if_neg c9] at H
    have c9b0 : decide (x11_1 < (t275.length : Int)) = false := decide_eq_false c9
    clear c9
    replace H := Option.bind_eq_some_iff.mp H
    obtain ⟨t285, A170, H⟩ := H
    replace H : ((utf_Encode.f k1 t285).bind fun t288 => (some (strOfNums t288))) = some r := H
    have A17 := Aside0.mk A170
    clear A170
    replace H := Option.bind_eq_some_iff.mp H
    obtain ⟨t288, A180, H⟩ := H
    replace H : (some (strOfNums t288)) = some r := H
    have A18 := Aside0.mk A180
    clear A180
    obtain rfl := Option.some.inj H
    obtain ⟨Ao19, co19, eo19⟩ := Kd.R_slice HO_3.out
    subst eo19
    go_wp2_with (first | ((with_reducible refine gate_callee (f := 113) rfl ?_); refine goesL_ (some 21) rfl rfl Tryz.func113 (by kernel_rfl) rfl #[.slice Ao19 x3_1.length co19] rfl (by (try simp only [List.map_toArray, List.map_cons, List.map_nil]); first | done | rfl | (simp only [List.length_drop, List.length_take]; rfl)) ?_; (with_reducible refine (norm_Normal.calls k1 _ _ x3_1 t285 _ ?side1 ?side2 A17.out (by first | exact HG.out | exact Va.G.below HG.out (by repeat (first | (with_reducible first | exact HB.out | apply below_alloc | apply pw_below_drewN | apply below_drew1) | exact HB.out)))).mono ?_); (case side1 => repeat (first | exact (Kd.R_reads' HO_3.out).2.2 | (with_reducible refine Kd.C_alloc ?_ _) | (with_reducible refine Kd.C_drewN ?_ _) | (with_reducible refine Kd.C_drew ?_))); (case side2 => exact (Kd.R_reads' HO_3.out).2.1); rintro e w20 ⟨v286, rfl, ho0, hb⟩; refine ⟨_, rfl, ?_⟩; have n0_ := Aside0.mk (Kd.R_elder' (by (with_reducible repeat (first | apply Kd.R_alloc | apply Kd.R_drewN | apply Kd.R_drew)); exact HO_3.out) (Kd.R_base ho0) hb); have n1_ := Aside0.mk (Kd.R_elder' (by (with_reducible repeat (first | apply Kd.R_alloc | apply Kd.R_drewN | apply Kd.R_drew)); exact HO_9.out) (Kd.R_base ho0) hb); have n2_ := Aside0.mk (Kd.R_lower (Kd.R_new' (Kd.R_new' ho0 (Kd.R_lt (by (with_reducible repeat (first | apply Kd.R_alloc | apply Kd.R_drewN | apply Kd.R_drew)); exact HO_3.out))) (Kd.R_lt (by (with_reducible repeat (first | apply Kd.R_alloc | apply Kd.R_drewN | apply Kd.R_drew)); exact HO_9.out))) (below_size (by repeat (first | (with_reducible first | exact HB.out | apply below_alloc | apply pw_below_drewN | apply below_drew1) | exact HB.out)))); have n3_ := Aside0.mk (below_step (by repeat (first | (with_reducible first | exact HB.out | apply below_alloc | apply pw_below_drewN | apply below_drew1) | exact HB.out)) hb); clear HO_3; clear HO_9; clear HB; have HO_3 := n0_; have HO_9 := n1_; have HO287 := n2_; have HB := n3_; clear n0_ n1_ n2_ n3_; (try clear hb); (try clear hb2); (try clear hk); (try clear hi); (try clear ho0); obtain ⟨Ao21, co21, eo21⟩ := Kd.R_slice HO287.out; subst eo21) | ((with_reducible refine gate_callee (f := 116) rfl ?_); refine goesL_ (some 22) rfl rfl Tryz.func116 (by kernel_rfl) rfl #[.slice Ao21 t285.length co21] rfl (by (try simp only [List.map_toArray, List.map_cons, List.map_nil]); first | done | rfl | (simp only [List.length_drop, List.length_take]; rfl)) ?_; (with_reducible refine (utf_Encode.calls k1 _ _ t285 t288 _ ?side1 ?side2 A18.out).mono ?_); (case side1 => repeat (first | exact (Kd.R_reads' HO287.out).2.2 | (with_reducible refine Kd.C_alloc ?_ _) | (with_reducible refine Kd.C_drewN ?_ _) | (with_reducible refine Kd.C_drew ?_))); (case side2 => exact (Kd.R_reads' HO287.out).2.1); rintro e w22 ⟨v289, rfl, ho0, hb⟩; refine ⟨_, rfl, ?_⟩; have n0_ := Aside0.mk (Kd.R_below (by (with_reducible repeat (first | apply Kd.R_alloc | apply Kd.R_drewN | apply Kd.R_drew)); exact HO_3.out) hb); have n1_ := Aside0.mk (Kd.R_below (by (with_reducible repeat (first | apply Kd.R_alloc | apply Kd.R_drewN | apply Kd.R_drew)); exact HO_9.out) hb); have n2_ := Aside0.mk (Kd.R_below (by (with_reducible repeat (first | apply Kd.R_alloc | apply Kd.R_drewN | apply Kd.R_drew)); exact HO287.out) hb); have n3_ := Aside0.mk (Kd.R_lower ho0 (below_size (by repeat (first | (with_reducible first | exact HB.out | apply below_alloc | apply pw_below_drewN | apply below_drew1) | exact HB.out)))); have n4_ := Aside0.mk (below_step (by repeat (first | (with_reducible first | exact HB.out | apply below_alloc | apply pw_below_drewN | apply below_drew1) | exact HB.out)) hb); clear HO_3; clear HO_9; clear HO287; clear HB; have HO_3 := n0_; have HO_9 := n1_; have HO287 := n2_; have HO290 := n3_; have HB := n4_; clear n0_ n1_ n2_ n3_ n4_; (try clear hb); (try clear hb2); (try clear hk); (try clear hi); (try clear ho0); have hcv23 := own_string (P := Tryz.prog) Tryz.underlying28 Tryz.underlying5 Tryz.underlying9 (Kd.own_of_R HO290.out)))
    go_ret
    exact ⟨by first | rfl | (simp [errW_none, errW_some] <;> rfl) | (simp [*, errW_none, errW_some] <;> rfl), by repeat (first | (with_reducible first | exact HB.out | apply below_alloc | apply pw_below_drewN | apply below_drew1) | exact HB.out)⟩
end Go.Proofs.YtdambnclbpipdaaGreatDoor.X
namespace Go.Proofs.YtdambnclbpipdaaGreatDoor.X
open Go.RowKit Go.Proofs.YtdambnclbpipdaaGreatDoorW.PrintWords Go.Proofs.YtdambnclbpipdaaGreatDoorW.PrintLast Go.Proofs.YtdambnclbpipdaaGreatDoorW.PrintMore
attribute [local go_sem] max2_int min2_int max_two min_two max_three min_three max_four min_four   
set_option linter.unusedVariables false
set_option linter.unusedSimpArgs false
def words_kind.f (a0 : ByteArray) : Option (Int) := (norm_Runes.f a0).bind fun t291 => (if (t291.length : Int) = 0 then (some 0) else (if 0 < (t291.length : Int) then ((ucd_Category.f (rd t291 0)).bind fun t295 => (if (rd t291 0) = 95 then (some 3) else (if t295 = 1 then (some 1) else (if t295 = 3 then (some 2) else (some 0))))) else (none)))
set_option maxHeartbeats 8000000 in
set_option maxRecDepth 100000 in
theorem words_kind.calls (a0 : ByteArray) (r : Int) (w : World) (h : words_kind.f a0 = some r) :
  Calls Tryz.prog 111 #[.string a0] w fun e w' => e = .returned (.int .i64 r) ∧ Below w.heap.size w w' := by
 have HB := Aside0.mk (Below.refl w.heap.size w)
 have H : ((norm_Runes.f a0).bind fun t291 => (if (t291.length : Int) = 0 then (some 0) else (if 0 < (t291.length : Int) then ((ucd_Category.f (rd t291 0)).bind fun t295 => (if (rd t291 0) = 95 then (some 3) else (if t295 = 1 then (some 1) else (if t295 = 3 then (some 2) else (some 0))))) else (none)))) = some r := h
 clear h
 replace H := Option.bind_eq_some_iff.mp H
 obtain ⟨t291, A20, H⟩ := H
 replace H : (if (t291.length : Int) = 0 then (some 0) else (if 0 < (t291.length : Int) then ((ucd_Category.f (rd t291 0)).bind fun t295 => (if (rd t291 0) = 95 then (some 3) else (if t295 = 1 then (some 1) else (if t295 = 3 then (some 2) else (some 0))))) else (none))) = some r := H
 have A2 := Aside0.mk A20
 clear A20
 by_cases c3 : (t291.length : Int) = 0
 ·rw [if_pos c3] at H
  have c3b0 : ((t291.length : Int) == 0) = true := beq_iff_eq.mpr c3
  have c3b1 : ((t291.length : Int) != 0) = false := bne_eq_false_iff_eq.mpr c3
  clear c3
  obtain rfl := Option.some.inj H
  go_enter Tryz.func111, Tryz.ntmps111
  go_wp2_with (first | ((with_reducible refine gate_callee (f := 114) rfl ?_); refine goesL_ (some 6) rfl rfl Tryz.func114 (by kernel_rfl) rfl #[.string a0] rfl (by (try simp only [List.map_toArray, List.map_cons, List.map_nil]); first | done | rfl | (simp only [List.length_drop, List.length_take]; rfl)) ?_; (with_reducible refine (norm_Runes.calls a0 t291 _ A2.out).mono ?_); rintro e w4 ⟨v292, rfl, ho0, hb⟩; refine ⟨_, rfl, ?_⟩; have n0_ := Aside0.mk (Kd.R_lower ho0 (below_size (by repeat (first | (with_reducible first | exact HB.out | apply below_alloc | apply pw_below_drewN | apply below_drew1) | exact HB.out)))); have n1_ := Aside0.mk (below_step (by repeat (first | (with_reducible first | exact HB.out | apply below_alloc | apply pw_below_drewN | apply below_drew1) | exact HB.out)) hb); clear HB; have HO293 := n0_; have HB := n1_; clear n0_ n1_; (try clear hb); (try clear hb2); (try clear hk); (try clear hi); (try clear ho0); obtain ⟨Ao5, co5, eo5⟩ := Kd.R_slice HO293.out; subst eo5))
  go_ret
  exact ⟨by first | rfl | (simp [errW_none, errW_some] <;> rfl) | (simp [*, errW_none, errW_some] <;> rfl), by repeat (first | (with_reducible first | exact HB.out | apply below_alloc | apply pw_below_drewN | apply below_drew1) | exact HB.out)⟩
 ·rw [if_neg c3] at H
  have c3b0 : ((t291.length : Int) == 0) = false := beq_eq_false_iff_ne.mpr c3
  have c3b1 : ((t291.length : Int) != 0) = true := bne_iff_ne.mpr c3
  have c3b2 : ¬ (t291 = []) := fun h_ => c3 (by rw [h_]; rfl)
  by_cases c6 : 0 < (t291.length : Int)
  ·rw [if_pos c6] at H
   have c6b0 : decide (0 < (t291.length : Int)) = true := decide_eq_true c6
   have c6b1 : decide (0 < t291.length) = true := decide_eq_true (by omega)
   clear c6
   replace H := Option.bind_eq_some_iff.mp H
   obtain ⟨t295, A70, H⟩ := H
   replace H : (if (rd t291 0) = 95 then (some 3) else (if t295 = 1 then (some 1) else (if t295 = 3 then (some 2) else (some 0)))) = some r := H
   have A7 := Aside0.mk A70
   clear A70
   by_cases c8 : (rd t291 0) = 95
   ·rw [if_pos c8] at H
    have c8b0 : ((rd t291 0) == 95) = true := beq_iff_eq.mpr c8
    have c8b1 : ((rd t291 0) != 95) = false := bne_eq_false_iff_eq.mpr c8
    clear c8
    obtain rfl := Option.some.inj H
    go_enter Tryz.func111, Tryz.ntmps111
    go_wp2_with (first | ((with_reducible refine gate_callee (f := 114) rfl ?_); refine goesL_ (some 6) rfl rfl Tryz.func114 (by kernel_rfl) rfl #[.string a0] rfl (by (try simp only [List.map_toArray, List.map_cons, List.map_nil]); first | done | rfl | (simp only [List.length_drop, List.length_take]; rfl)) ?_; (with_reducible refine (norm_Runes.calls a0 t291 _ A2.out).mono ?_); rintro e w9 ⟨v292, rfl, ho0, hb⟩; refine ⟨_, rfl, ?_⟩; have n0_ := Aside0.mk (Kd.R_lower ho0 (below_size (by repeat (first | (with_reducible first | exact HB.out | apply below_alloc | apply pw_below_drewN | apply below_drew1) | exact HB.out)))); have n1_ := Aside0.mk (below_step (by repeat (first | (with_reducible first | exact HB.out | apply below_alloc | apply pw_below_drewN | apply below_drew1) | exact HB.out)) hb); clear HB; have HO293 := n0_; have HB := n1_; clear n0_ n1_; (try clear hb); (try clear hb2); (try clear hk); (try clear hi); (try clear ho0); obtain ⟨Ao10, co10, eo10⟩ := Kd.R_slice HO293.out; subst eo10; have p294 : 0 ≤ (0 : Int) := (by omega); have q294 : 0 < (t291.length : Int) := of_decide_eq_true (by first | (with_reducible assumption) | assumption); obtain ⟨ad294, e294, hx294_0⟩ := Kd.at_int (Kd.R_reads' HO293.out).2.2 0 p294 q294; cases e294; have qi294 : (0 < t291.length) = True := eq_true (by omega); (try rw [show ((0 : Int)).toNat = 0 from rfl] at hx294_0); (try rw [Addr.add_zero'] at hx294_0); replace p294 := eq_true p294; replace q294 := eq_true q294) | ((with_reducible refine gate_callee (f := 149) rfl ?_); refine goesL_ (some 13) rfl rfl Tryz.func149 (by kernel_rfl) rfl #[.int .i32 (rd t291 0)] rfl (by (try simp only [List.map_toArray, List.map_cons, List.map_nil]); first | done | rfl | (simp only [List.length_drop, List.length_take]; rfl)) ?_; (with_reducible refine (ucd_Category.calls (rd t291 0) t295 _ A7.out).mono ?_); rintro e w11 ⟨rfl, hb⟩; refine ⟨_, rfl, ?_⟩; have n0_ := Aside0.mk (Kd.R_below (by (with_reducible repeat (first | apply Kd.R_alloc | apply Kd.R_drewN | apply Kd.R_drew)); exact HO293.out) hb); have n1_ := Aside0.mk (below_step (by repeat (first | (with_reducible first | exact HB.out | apply below_alloc | apply pw_below_drewN | apply below_drew1) | exact HB.out)) hb); clear HO293; clear HB; have HO293 := n0_; have HB := n1_; clear n0_ n1_; (try clear hb); (try clear hb2); (try clear hk); (try clear hi); have p296 : 0 ≤ (0 : Int) := (by omega); have q296 : 0 < (t291.length : Int) := of_decide_eq_true (by first | (with_reducible assumption) | assumption); obtain ⟨ad296, e296, hx296_0⟩ := Kd.at_int (Kd.R_reads' HO293.out).2.2 0 p296 q296; obtain rfl : ad294 = ad296 := (by injection e296); have qi296 : (0 < t291.length) = True := eq_true (by omega); (try rw [show ((0 : Int)).toNat = 0 from rfl] at hx296_0); (try rw [Addr.add_zero'] at hx296_0); replace p296 := eq_true p296; replace q296 := eq_true q296))
    go_ret
    exact ⟨by first | rfl | (simp [errW_none, errW_some] <;> rfl) | (simp [*, errW_none, errW_some] <;> rfl), by repeat (first | (with_reducible first | exact HB.out | apply below_alloc | apply pw_below_drewN | apply below_drew1) | exact HB.out)⟩
   ·rw [if_neg c8] at H
    have c8b0 : ((rd t291 0) == 95) = false := beq_eq_false_iff_ne.mpr c8
    have c8b1 : ((rd t291 0) != 95) = true := bne_iff_ne.mpr c8
    by_cases c12 : t295 = 1
    ·rw [if_pos c12] at H
     have c12b0 : (t295 == 1) = true := beq_iff_eq.mpr c12
     have c12b1 : (t295 != 1) = false := bne_eq_false_iff_eq.mpr c12
     clear c12
     obtain rfl := Option.some.inj H
     go_enter Tryz.func111, Tryz.ntmps111
     go_wp2_with (first | ((with_reducible refine gate_callee (f := 114) rfl ?_); refine goesL_ (some 6) rfl rfl Tryz.func114 (by kernel_rfl) rfl #[.string a0] rfl (by (try simp only [List.map_toArray, List.map_cons, List.map_nil]); first | done | rfl | (simp only [List.length_drop, List.length_take]; rfl)) ?_; (with_reducible refine (norm_Runes.calls a0 t291 _ A2.out).mono ?_); rintro e w13 ⟨v292, rfl, ho0, hb⟩; refine ⟨_, rfl, ?_⟩; have n0_ := Aside0.mk (Kd.R_lower ho0 (below_size (by repeat (first | (with_reducible first | exact HB.out | apply below_alloc | apply pw_below_drewN | apply below_drew1) | exact HB.out)))); have n1_ := Aside0.mk (below_step (by repeat (first | (with_reducible first | exact HB.out | apply below_alloc | apply pw_below_drewN | apply below_drew1) | exact HB.out)) hb); clear HB; have HO293 := n0_; have HB := n1_; clear n0_ n1_; (try clear hb); (try clear hb2); (try clear hk); (try clear hi); (try clear ho0); obtain ⟨Ao14, co14, eo14⟩ := Kd.R_slice HO293.out; subst eo14; have p294 : 0 ≤ (0 : Int) := (by omega); have q294 : 0 < (t291.length : Int) := of_decide_eq_true (by first | (with_reducible assumption) | assumption); obtain ⟨ad294, e294, hx294_0⟩ := Kd.at_int (Kd.R_reads' HO293.out).2.2 0 p294 q294; cases e294; have qi294 : (0 < t291.length) = True := eq_true (by omega); (try rw [show ((0 : Int)).toNat = 0 from rfl] at hx294_0); (try rw [Addr.add_zero'] at hx294_0); replace p294 := eq_true p294; replace q294 := eq_true q294) | ((with_reducible refine gate_callee (f := 149) rfl ?_); refine goesL_ (some 13) rfl rfl Tryz.func149 (by kernel_rfl) rfl #[.int .i32 (rd t291 0)] rfl (by (try simp only [List.map_toArray, List.map_cons, List.map_nil]); first | done | rfl | (simp only [List.length_drop, List.length_take]; rfl)) ?_; (with_reducible refine (ucd_Category.calls (rd t291 0) t295 _ A7.out).mono ?_); rintro e w15 ⟨rfl, hb⟩; refine ⟨_, rfl, ?_⟩; have n0_ := Aside0.mk (Kd.R_below (by (with_reducible repeat (first | apply Kd.R_alloc | apply Kd.R_drewN | apply Kd.R_drew)); exact HO293.out) hb); have n1_ := Aside0.mk (below_step (by repeat (first | (with_reducible first | exact HB.out | apply below_alloc | apply pw_below_drewN | apply below_drew1) | exact HB.out)) hb); clear HO293; clear HB; have HO293 := n0_; have HB := n1_; clear n0_ n1_; (try clear hb); (try clear hb2); (try clear hk); (try clear hi); have p296 : 0 ≤ (0 : Int) := (by omega); have q296 : 0 < (t291.length : Int) := of_decide_eq_true (by first | (with_reducible assumption) | assumption); obtain ⟨ad296, e296, hx296_0⟩ := Kd.at_int (Kd.R_reads' HO293.out).2.2 0 p296 q296; obtain rfl : ad294 = ad296 := (by injection e296); have qi296 : (0 < t291.length) = True := eq_true (by omega); (try rw [show ((0 : Int)).toNat = 0 from rfl] at hx296_0); (try rw [Addr.add_zero'] at hx296_0); replace p296 := eq_true p296; replace q296 := eq_true q296))
     go_ret
     exact ⟨by first | rfl | (simp [errW_none, errW_some] <;> rfl) | (simp [*, errW_none, errW_some] <;> rfl), by repeat (first | (with_reducible first | exact HB.out | apply below_alloc | apply pw_below_drewN | apply below_drew1) | exact HB.out)⟩
    ·rw [if_neg c12] at H
     have c12b0 : (t295 == 1) = false := beq_eq_false_iff_ne.mpr c12
     have c12b1 : (t295 != 1) = true := bne_iff_ne.mpr c12
     by_cases c16 : t295 = 3
     ·rw [if_pos c16] at H
      have c16b0 : (t295 == 3) = true := beq_iff_eq.mpr c16
      have c16b1 : (t295 != 3) = false := bne_eq_false_iff_eq.mpr c16
      clear c16
      obtain rfl := Option.some.inj H
      go_enter Tryz.func111, Tryz.ntmps111
      go_wp2_with (first | ((with_reducible refine gate_callee (f := 114) rfl ?_); refine goesL_ (some 6) rfl rfl Tryz.func114 (by kernel_rfl) rfl #[.string a0] rfl (by (try simp only [List.map_toArray, List.map_cons, List.map_nil]); first | done | rfl | (simp only [List.length_drop, List.length_take]; rfl)) ?_; (with_reducible refine (norm_Runes.calls a0 t291 _ A2.out).mono ?_); rintro e w17 ⟨v292, rfl, ho0, hb⟩; refine ⟨_, rfl, ?_⟩; have n0_ := Aside0.mk (Kd.R_lower ho0 (below_size (by repeat (first | (with_reducible first | exact HB.out | apply below_alloc | apply pw_below_drewN | apply below_drew1) | exact HB.out)))); have n1_ := Aside0.mk (below_step (by repeat (first | (with_reducible first | exact HB.out | apply below_alloc | apply pw_below_drewN | apply below_drew1) | exact HB.out)) hb); clear HB; have HO293 := n0_; have HB := n1_; clear n0_ n1_; (try clear hb); (try clear hb2); (try clear hk); (try clear hi); (try clear ho0); obtain ⟨Ao18, co18, eo18⟩ := Kd.R_slice HO293.out; subst eo18; have p294 : 0 ≤ (0 : Int) := (by omega); have q294 : 0 < (t291.length : Int) := of_decide_eq_true (by first | (with_reducible assumption) | assumption); obtain ⟨ad294, e294, hx294_0⟩ := Kd.at_int (Kd.R_reads' HO293.out).2.2 0 p294 q294; cases e294; have qi294 : (0 < t291.length) = True := eq_true (by omega); (try rw [show ((0 : Int)).toNat = 0 from rfl] at hx294_0); (try rw [Addr.add_zero'] at hx294_0); replace p294 := eq_true p294; replace q294 := eq_true q294) | ((with_reducible refine gate_callee (f := 149) rfl ?_); refine goesL_ (some 13) rfl rfl Tryz.func149 (by kernel_rfl) rfl #[.int .i32 (rd t291 0)] rfl (by (try simp only [List.map_toArray, List.map_cons, List.map_nil]); first | done | rfl | (simp only [List.length_drop, List.length_take]; rfl)) ?_; (with_reducible refine (ucd_Category.calls (rd t291 0) t295 _ A7.out).mono ?_); rintro e w19 ⟨rfl, hb⟩; refine ⟨_, rfl, ?_⟩; have n0_ := Aside0.mk (Kd.R_below (by (with_reducible repeat (first | apply Kd.R_alloc | apply Kd.R_drewN | apply Kd.R_drew)); exact HO293.out) hb); have n1_ := Aside0.mk (below_step (by repeat (first | (with_reducible first | exact HB.out | apply below_alloc | apply pw_below_drewN | apply below_drew1) | exact HB.out)) hb); clear HO293; clear HB; have HO293 := n0_; have HB := n1_; clear n0_ n1_; (try clear hb); (try clear hb2); (try clear hk); (try clear hi); have p296 : 0 ≤ (0 : Int) := (by omega); have q296 : 0 < (t291.length : Int) := of_decide_eq_true (by first | (with_reducible assumption) | assumption); obtain ⟨ad296, e296, hx296_0⟩ := Kd.at_int (Kd.R_reads' HO293.out).2.2 0 p296 q296; obtain rfl : ad294 = ad296 := (by injection e296); have qi296 : (0 < t291.length) = True := eq_true (by omega); (try rw [show ((0 : Int)).toNat = 0 from rfl] at hx296_0); (try rw [Addr.add_zero'] at hx296_0); replace p296 := eq_true p296; replace q296 := eq_true q296))
      go_ret
      exact ⟨by first | rfl | (simp [errW_none, errW_some] <;> rfl) | (simp [*, errW_none, errW_some] <;> rfl), by repeat (first | (with_reducible first | exact HB.out | apply below_alloc | apply pw_below_drewN | apply below_drew1) | exact HB.out)⟩
     ·rw [if_neg c16] at H
      have c16b0 : (t295 == 3) = false := beq_eq_false_iff_ne.mpr c16
      have c16b1 : (t295 != 3) = true := bne_iff_ne.mpr c16
      obtain rfl := Option.some.inj H
      go_enter Tryz.func111, Tryz.ntmps111
      go_wp2_with (first | ((with_reducible refine gate_callee (f := 114) rfl ?_); refine goesL_ (some 6) rfl rfl Tryz.func114 (by kernel_rfl) rfl #[.string a0] rfl (by (try simp only [List.map_toArray, List.map_cons, List.map_nil]); first | done | rfl | (simp only [List.length_drop, List.length_take]; rfl)) ?_; (with_reducible refine (norm_Runes.calls a0 t291 _ A2.out).mono ?_); rintro e w20 ⟨v292, rfl, ho0, hb⟩; refine ⟨_, rfl, ?_⟩; have n0_ := Aside0.mk (Kd.R_lower ho0 (below_size (by repeat (first | (with_reducible first | exact HB.out | apply below_alloc | apply pw_below_drewN | apply below_drew1) | exact HB.out)))); have n1_ := Aside0.mk (below_step (by repeat (first | (with_reducible first | exact HB.out | apply below_alloc | apply pw_below_drewN | apply below_drew1) | exact HB.out)) hb); clear HB; have HO293 := n0_; have HB := n1_; clear n0_ n1_; (try clear hb); (try clear hb2); (try clear hk); (try clear hi); (try clear ho0); obtain ⟨Ao21, co21, eo21⟩ := Kd.R_slice HO293.out; subst eo21; have p294 : 0 ≤ (0 : Int) := (by omega); have q294 : 0 < (t291.length : Int) := of_decide_eq_true (by first | (with_reducible assumption) | assumption); obtain ⟨ad294, e294, hx294_0⟩ := Kd.at_int (Kd.R_reads' HO293.out).2.2 0 p294 q294; cases e294; have qi294 : (0 < t291.length) = True := eq_true (by omega); (try rw [show ((0 : Int)).toNat = 0 from rfl] at hx294_0); (try rw [Addr.add_zero'] at hx294_0); replace p294 := eq_true p294; replace q294 := eq_true q294) | ((with_reducible refine gate_callee (f := 149) rfl ?_); refine goesL_ (some 13) rfl rfl Tryz.func149 (by kernel_rfl) rfl #[.int .i32 (rd t291 0)] rfl (by (try simp only [List.map_toArray, List.map_cons, List.map_nil]); first | done | rfl | (simp only [List.length_drop, List.length_take]; rfl)) ?_; (with_reducible refine (ucd_Category.calls (rd t291 0) t295 _ A7.out).mono ?_); rintro e w22 ⟨rfl, hb⟩; refine ⟨_, rfl, ?_⟩; have n0_ := Aside0.mk (Kd.R_below (by (with_reducible repeat (first | apply Kd.R_alloc | apply Kd.R_drewN | apply Kd.R_drew)); exact HO293.out) hb); have n1_ := Aside0.mk (below_step (by repeat (first | (with_reducible first | exact HB.out | apply below_alloc | apply pw_below_drewN | apply below_drew1) | exact HB.out)) hb); clear HO293; clear HB; have HO293 := n0_; have HB := n1_; clear n0_ n1_; (try clear hb); (try clear hb2); (try clear hk); (try clear hi); have p296 : 0 ≤ (0 : Int) := (by omega); have q296 : 0 < (t291.length : Int) := of_decide_eq_true (by first | (with_reducible assumption) | assumption); obtain ⟨ad296, e296, hx296_0⟩ := Kd.at_int (Kd.R_reads' HO293.out).2.2 0 p296 q296; obtain rfl : ad294 = ad296 := (by injection e296); have qi296 : (0 < t291.length) = True := eq_true (by omega); (try rw [show ((0 : Int)).toNat = 0 from rfl] at hx296_0); (try rw [Addr.add_zero'] at hx296_0); replace p296 := eq_true p296; replace q296 := eq_true q296))
      go_ret
      exact ⟨by first | rfl | (simp [errW_none, errW_some] <;> rfl) | (simp [*, errW_none, errW_some] <;> rfl), by repeat (first | (with_reducible first | exact HB.out | apply below_alloc | apply pw_below_drewN | apply below_drew1) | exact HB.out)⟩
  ·rw [if_neg c6] at H
   exact absurd H (by simp)
end Go.Proofs.YtdambnclbpipdaaGreatDoor.X
namespace Go.Proofs.YtdambnclbpipdaaGreatDoor.X
open Go.RowKit Go.Proofs.YtdambnclbpipdaaGreatDoorW.PrintWords Go.Proofs.YtdambnclbpipdaaGreatDoorW.PrintLast Go.Proofs.YtdambnclbpipdaaGreatDoorW.PrintMore
attribute [local go_sem] max2_int min2_int max_two min_two max_three min_three max_four min_four   
set_option linter.unusedVariables false
set_option linter.unusedSimpArgs false
def words_joint.j0 : Nat → ByteArray → Bool → Option (Int)
 | 0, _, _ => none
 | k + 1, x3, x4 => if x4 = true then (some 1) else (if x3.toList = ([46] : List UInt8) then (some 2) else (if x3.toList = ([44] : List UInt8) then (some 2) else (some 0)))
def words_joint.f (k : Nat) (a0 : ByteArray) : Option (Int) := if a0.toList = ([39] : List UInt8) then (words_joint.j0 k a0 (a0.toList == ([39] : List UInt8))) else (if a0.toList = ([226, 128, 153] : List UInt8) then (words_joint.j0 k a0 (a0.toList == ([226, 128, 153] : List UInt8))) else (words_joint.j0 k a0 (a0.toList == ([194, 183] : List UInt8))))
theorem words_joint.mono_l : ∀ k, (∀ y0 y1, LeO (words_joint.j0 k y0 y1) (words_joint.j0 (k + 1) y0 y1))
 | 0 => fun _ _ r h => by simp [words_joint.j0] at h
 | k + 1 => by
  have ih0 := words_joint.mono_l k
  ·intro y0 y1
   unfold words_joint.j0
   repeat' first
   | (with_reducible exact ih0 _ _)
   | (with_reducible exact LeO.refl _)
   | (with_reducible exact LeO.none _)
   | (with_reducible refine LeO.ite ?_ ?_)
   | (with_reducible refine LeO.bind ?_ (fun _ => ?_))
   | exact ih0 _ _
   | exact LeO.none _
   | refine LeO.ite ?_ ?_
   | refine LeO.bind ?_ (fun _ => ?_)
theorem words_joint.mono : ∀ a0 k, LeO (words_joint.f k a0) (words_joint.f (k + 1) a0) := by
 intro a0 k
 have ih0 := words_joint.mono_l k
 unfold words_joint.f
 repeat' first
   | (with_reducible exact ih0 _ _)
   | (with_reducible exact LeO.refl _)
   | (with_reducible exact LeO.none _)
   | (with_reducible refine LeO.ite ?_ ?_)
   | (with_reducible refine LeO.bind ?_ (fun _ => ?_))
   | exact ih0 _ _
   | exact LeO.none _
   | refine LeO.ite ?_ ?_
   | refine LeO.bind ?_ (fun _ => ?_)
set_option maxHeartbeats 8000000 in
set_option maxRecDepth 100000 in
theorem words_joint.calls (k : Nat) (a0 : ByteArray) (r : Int) (w : World) (h : words_joint.f k a0 = some r) :
  Calls Tryz.prog 112 #[.string a0] w fun e w' => e = .returned (.int .i64 r) ∧ Drawn0 w w' := by
 have H : (if a0.toList = ([39] : List UInt8) then (words_joint.j0 k a0 (a0.toList == ([39] : List UInt8))) else (if a0.toList = ([226, 128, 153] : List UInt8) then (words_joint.j0 k a0 (a0.toList == ([226, 128, 153] : List UInt8))) else (words_joint.j0 k a0 (a0.toList == ([194, 183] : List UInt8))))) = some r := h
 clear h
 have HC2 := Aside0.mk H
 clear H
 go_enter Tryz.func112, Tryz.ntmps112
 go_upto_if 4 with (fail)
 go_cut [4] (fun v4 wc => ∃ (kq : Nat) (x4_1 : Bool), v4 = .bool x4_1 ∧ Aside0 (words_joint.j0 kq a0 x4_1 = some r) ∧ Aside0 (kq ≤ k) ∧ Drawn0 w wc)
 case first =>
  have H := HC2.out
  clear HC2
  by_cases c3 : a0.toList = ([39] : List UInt8)
  ·rw [if_pos c3] at H
   have c3b0 : (a0.toList == ([39] : List UInt8)) = true := beq_iff_eq.mpr c3
   have c3b1 : (a0.toList != ([39] : List UInt8)) = false := bne_eq_false_iff_eq.mpr c3
   clear c3
   (first | rw [c3b0] | (simp only [i64_w, i32_w]; rw [c3b0]) | skip)
   have H' := Aside0.mk H
   clear H
   go_wp2
   go_meet
   case rel => exact ⟨_, ((a0.toList == ([39] : List UInt8))), (by first | rfl | (simp; done) | (simp [*]; done)), H', ⟨by first | omega | exact Nat.le_refl _⟩, by repeat (first | exact Drawn0.refl _ | apply Drawn0.step)⟩
  ·rw [if_neg c3] at H
   have c3b0 : (a0.toList == ([39] : List UInt8)) = false := beq_eq_false_iff_ne.mpr c3
   have c3b1 : (a0.toList != ([39] : List UInt8)) = true := bne_iff_ne.mpr c3
   (first | rw [c3b0] | (simp only [i64_w, i32_w]; rw [c3b0]) | skip)
   by_cases c4 : a0.toList = ([226, 128, 153] : List UInt8)
   ·rw [if_pos c4] at H
    have c4b0 : (a0.toList == ([226, 128, 153] : List UInt8)) = true := beq_iff_eq.mpr c4
    have c4b1 : (a0.toList != ([226, 128, 153] : List UInt8)) = false := bne_eq_false_iff_eq.mpr c4
    clear c4
    have H' := Aside0.mk H
    clear H
    go_wp2
    go_meet
    case rel => exact ⟨_, ((a0.toList == ([226, 128, 153] : List UInt8))), (by first | rfl | (simp; done) | (simp [*]; done)), H', ⟨by first | omega | exact Nat.le_refl _⟩, by repeat (first | exact Drawn0.refl _ | apply Drawn0.step)⟩
   ·rw [if_neg c4] at H
    have c4b0 : (a0.toList == ([226, 128, 153] : List UInt8)) = false := beq_eq_false_iff_ne.mpr c4
    have c4b1 : (a0.toList != ([226, 128, 153] : List UInt8)) = true := bne_iff_ne.mpr c4
    have H' := Aside0.mk H
    clear H
    go_wp2
    go_meet
    case rel => exact ⟨_, ((a0.toList == ([194, 183] : List UInt8))), (by first | rfl | (simp; done) | (simp [*]; done)), H', ⟨by first | omega | exact Nat.le_refl _⟩, by repeat (first | exact Drawn0.refl _ | apply Drawn0.step)⟩
 case rest =>
  clear HC2
  try clear c1
  try clear p2
  try clear c3
  try clear c3b0
  try clear c3b1
  try clear c4
  try clear c4b0
  try clear c4b1
  obtain ⟨kq, x4_1, rfl, HA, HJ1, ⟨mc1, rfl⟩⟩ := hcut
  cases kq with
  | zero => exact absurd HA.out (by simp [words_joint.j0])
  | succ kj1 =>
   have H := HA.out
   clear HA
   simp only [words_joint.j0] at H
   by_cases c5 : x4_1 = true
   ·subst c5
    have H1 : (some 1) = some r := by rw [if_pos rfl] at H; exact H
    clear H
    have H := H1
    clear H1
    obtain rfl := Option.some.inj H
    go_wp2
    go_ret
    exact ⟨by first | rfl | (simp; done) | (simp [*]; done), by repeat (first | exact Drawn0.refl _ | apply Drawn0.step)⟩
   ·replace c5 := Bool.eq_false_iff.mpr c5
    subst c5
    have H1 : (if a0.toList = ([46] : List UInt8) then (some 2) else (if a0.toList = ([44] : List UInt8) then (some 2) else (some 0))) = some r := by rw [if_neg (show ¬ (false = true) by decide)] at H; exact H
    clear H
    have H := H1
    clear H1
    by_cases c6 : a0.toList = ([46] : List UInt8)
    ·rw [if_pos c6] at H
     have c6b0 : (a0.toList == ([46] : List UInt8)) = true := beq_iff_eq.mpr c6
     have c6b1 : (a0.toList != ([46] : List UInt8)) = false := bne_eq_false_iff_eq.mpr c6
     clear c6
     obtain rfl := Option.some.inj H
     go_wp2
     go_ret
     exact ⟨by first | rfl | (simp; done) | (simp [*]; done), by repeat (first | exact Drawn0.refl _ | apply Drawn0.step)⟩
    ·rw [if_neg c6] at H
     have c6b0 : (a0.toList == ([46] : List UInt8)) = false := beq_eq_false_iff_ne.mpr c6
     have c6b1 : (a0.toList != ([46] : List UInt8)) = true := bne_iff_ne.mpr c6
     by_cases c7 : a0.toList = ([44] : List UInt8)
     ·rw [if_pos c7] at H
      have c7b0 : (a0.toList == ([44] : List UInt8)) = true := beq_iff_eq.mpr c7
      have c7b1 : (a0.toList != ([44] : List UInt8)) = false := bne_eq_false_iff_eq.mpr c7
      clear c7
      obtain rfl := Option.some.inj H
      go_wp2
      go_ret
      exact ⟨by first | rfl | (simp; done) | (simp [*]; done), by repeat (first | exact Drawn0.refl _ | apply Drawn0.step)⟩
     ·rw [if_neg c7] at H
      have c7b0 : (a0.toList == ([44] : List UInt8)) = false := beq_eq_false_iff_ne.mpr c7
      have c7b1 : (a0.toList != ([44] : List UInt8)) = true := bne_iff_ne.mpr c7
      obtain rfl := Option.some.inj H
      go_wp2
      go_ret
      exact ⟨by first | rfl | (simp; done) | (simp [*]; done), by repeat (first | exact Drawn0.refl _ | apply Drawn0.step)⟩
end Go.Proofs.YtdambnclbpipdaaGreatDoor.X
