/-
  Several texts of this claim in one: what its law's proof uses.
-/
import Derived.Test.YthffpkdadffinaaDoorProg
import Derived.Below
import Derived.Deep.Draws
import Derived.Deep.AppendLies
import Derived.Maps.AppendAt
import Derived.OwnWalk
import Derived.Laws.BytesArg
import Derived.Laws.MakeOwn
import Derived.Laws.OwnMore
import Derived.Deep.OwnRows
import Derived.Tactics
import Derived.Lib.ConvBytes
import Derived.Laws.Slices
import Derived.WalkKit
import Derived.KernelRfl
import Derived.RowKit3
import Derived.Deep.LoopGhost
import Derived.Deep.QuietTactic
import Derived.BigQuiet
import Derived.WideLaws
import Derived.Deep.DeepCutAuto
import Derived.Deep.CutBlock
import Derived.Deep.RegionHeld3
import Derived.Laws.Rows
import Derived.Lib.AppendStr
import Derived.ArgAppend
import Derived.Laws.IdiomCopy
import Derived.OrdersHeld
import Derived.Laws.BitsLemmas
import Derived.RowKit
import Derived.Test.YthffpkdadffinaaDoorMUR0
import Derived.Test.YthffpkdadffinaaDoorMUR1
import Derived.Deep.MidRow
import Derived.WalkSpells
import Derived.WalkLawsBesides
import Derived.Shelf.SlSortCmp.WholeK
namespace Go.Proofs.YthffpkdadffinaaDoor.X
open Go.RowKit Go.Proofs.YthffpkdadffinaaDoorW.PrintWords Go.Proofs.YthffpkdadffinaaDoorW.PrintLast Go.Proofs.YthffpkdadffinaaDoorW.PrintMore
attribute [local go_sem] max2_int min2_int max_two min_two max_three min_three max_four min_four   
set_option linter.unusedVariables false
set_option linter.unusedSimpArgs false
def errW : Option Int → Value
  | none => .nilIface
  | some c => .iface 0 (.int .i64 c)
theorem errW_none : errW none = .nilIface := rfl
theorem errW_some (c : Int) : errW (some c) = .iface 0 (.int .i64 c) := rfl
theorem info46 : (Tryd.prog.info? 46).map (fun i => (i.zero, i.size, i.bytes)) = some (some (.agg #[(.int .i32 0), (.int .i32 0)]), 2, 8) := by kernel_rfl
structure S46 where
  f0 : Int
  f1 : Int
def z46 : S46 := ⟨(0 : Int), (0 : Int)⟩
def k46 : Kd S46 := Kd.iso (Kd.pair (Kd.int .i32) (Kd.int .i32)) (fun x : S46 => (x.f0, x.f1))
theorem k46_open {w : World} {x : S46} {cs : List Value} (h : k46.K w x cs) : cs = [.int .i32 x.f0, .int .i32 x.f1] := by
  obtain ⟨_, _, rfl, rfl, rfl⟩ := h
  exact rfl
theorem k46_openM {w : World} {base : Nat} {ok : Nat → Prop} {x : S46} {cs : List Value} (h : k46.M w base ok x cs) : cs = [.int .i32 x.f0, .int .i32 x.f1] := by
  obtain ⟨_, _, rfl, rfl, rfl⟩ := h
  exact rfl
theorem k46_mkM (w : World) (base : Nat) (ok : Nat → Prop) (x : S46)  : k46.M w base ok x [.int .i32 x.f0, .int .i32 x.f1] := ⟨[.int .i32 x.f0], [.int .i32 x.f1], rfl, rfl, rfl⟩
def rd_T46 (xs : List S46) (i : Int) : S46 := xs.getD i.toNat z46
theorem at_T46 {w : World} {A : Option Addr} {n : Nat} {xs : List S46} (h : Kd.C k46 w A n xs) (i : Int) (h0 : 0 ≤ i) (h1 : i < n) : ∃ ad , A = some ad ∧ w.cell? (ad.add (i.toNat * 2)) = some (.int .i32 (rd_T46 xs i).f0) ∧ w.cell? ⟨(ad.add (i.toNat * 2)).block, (ad.add (i.toNat * 2)).off + 1, none⟩ = some (.int .i32 (rd_T46 xs i).f1) := by
  obtain ⟨ad, c, e, _, hK, hc0⟩ := Kd.C_get h z46 i h0 h1
  have hc : ∀ j u, c[j]? = some u → w.cell? (ad.add (i.toNat * 2 + j)) = some u := hc0
  obtain rfl := k46_open hK
  exact ⟨ad, e, hc 0 _ rfl, by rw [← add_field _ _ 1 (by omega)]; exact hc 1 _ rfl⟩
structure S103 where
  f0 : Int
  f1 : Int
  f2 : Int
structure S67 where
  f0 : ByteArray
  f1 : Int
  f2 : Int
structure S58 where
  f0 : Int
  f1 : Int
  f2 : Int
  f3 : Int
structure S60 where
  f0 : ByteArray
  f1 : S58
end Go.Proofs.YthffpkdadffinaaDoor.X
namespace Go.Proofs.YthffpkdadffinaaDoor.X
open Go.RowKit Go.Proofs.YthffpkdadffinaaDoorW.PrintWords Go.Proofs.YthffpkdadffinaaDoorW.PrintLast Go.Proofs.YthffpkdadffinaaDoorW.PrintMore
attribute [local go_sem] max2_int min2_int max_two min_two max_three min_three max_four min_four   
set_option linter.unusedVariables false
set_option linter.unusedSimpArgs false
def ucd_listed.f (a0 : Int) : Option ((List (S46))) := if a0 = 6 then (some (([(⟨32, 32⟩ : S46), (⟨160, 160⟩ : S46), (⟨8192, 8202⟩ : S46), (⟨8232, 8233⟩ : S46), (⟨12288, 12288⟩ : S46)] : List (S46)))) else (if a0 = 3 then (some (([(⟨48, 57⟩ : S46), (⟨178, 179⟩ : S46), (⟨185, 185⟩ : S46), (⟨188, 190⟩ : S46), (⟨1632, 1641⟩ : S46), (⟨65296, 65305⟩ : S46)] : List (S46)))) else (if a0 = 2 then (some (([(⟨768, 879⟩ : S46), (⟨1155, 1161⟩ : S46), (⟨8400, 8412⟩ : S46), (⟨12441, 12442⟩ : S46)] : List (S46)))) else (if a0 = 4 then (some (([(⟨33, 35⟩ : S46), (⟨37, 42⟩ : S46), (⟨44, 47⟩ : S46), (⟨58, 59⟩ : S46), (⟨63, 64⟩ : S46), (⟨91, 93⟩ : S46), (⟨95, 95⟩ : S46), (⟨123, 123⟩ : S46), (⟨125, 125⟩ : S46), (⟨161, 161⟩ : S46), (⟨167, 167⟩ : S46), (⟨171, 171⟩ : S46), (⟨182, 183⟩ : S46), (⟨187, 187⟩ : S46), (⟨191, 191⟩ : S46), (⟨903, 903⟩ : S46), (⟨8208, 8231⟩ : S46), (⟨8240, 8259⟩ : S46), (⟨12289, 12291⟩ : S46)] : List (S46)))) else (if a0 = 5 then (some (([(⟨36, 36⟩ : S46), (⟨43, 43⟩ : S46), (⟨60, 62⟩ : S46), (⟨94, 94⟩ : S46), (⟨96, 96⟩ : S46), (⟨124, 124⟩ : S46), (⟨126, 126⟩ : S46), (⟨162, 166⟩ : S46), (⟨168, 169⟩ : S46), (⟨172, 172⟩ : S46), (⟨174, 177⟩ : S46), (⟨180, 180⟩ : S46), (⟨184, 184⟩ : S46), (⟨215, 215⟩ : S46), (⟨247, 247⟩ : S46), (⟨8352, 8384⟩ : S46), (⟨8592, 8959⟩ : S46), (⟨65533, 65533⟩ : S46), (⟨128512, 128591⟩ : S46)] : List (S46)))) else (if a0 = 1 then (some (([(⟨65, 90⟩ : S46), (⟨97, 122⟩ : S46), (⟨170, 170⟩ : S46), (⟨181, 181⟩ : S46), (⟨186, 186⟩ : S46), (⟨192, 214⟩ : S46), (⟨216, 246⟩ : S46), (⟨248, 687⟩ : S46), (⟨902, 902⟩ : S46), (⟨904, 1153⟩ : S46), (⟨1162, 1327⟩ : S46), (⟨4352, 4607⟩ : S46), (⟨7680, 8124⟩ : S46), (⟨8486, 8486⟩ : S46), (⟨8490, 8491⟩ : S46), (⟨12353, 12438⟩ : S46), (⟨12449, 12538⟩ : S46), (⟨19968, 40959⟩ : S46), (⟨44032, 55203⟩ : S46)] : List (S46)))) else (some ([] : List (S46))))))))
set_option maxHeartbeats 8000000 in
set_option maxRecDepth 100000 in
theorem ucd_listed.calls (a0 : Int) (r : List (S46)) (w : World) (h : ucd_listed.f a0 = some r) :
  Calls Tryd.prog 61 #[.int .i64 a0] w fun e w' => ∃ v0_ : Value, e = .returned (v0_) ∧ Kd.R k46 46 w' w.heap.size (fun _ => True) v0_ r ∧ Below w.heap.size w w' := by
 have hu46 := Tryd.underlying46
 have HB := Aside0.mk (Below.refl w.heap.size w)
 have H : (if a0 = 6 then (some (([(⟨32, 32⟩ : S46), (⟨160, 160⟩ : S46), (⟨8192, 8202⟩ : S46), (⟨8232, 8233⟩ : S46), (⟨12288, 12288⟩ : S46)] : List (S46)))) else (if a0 = 3 then (some (([(⟨48, 57⟩ : S46), (⟨178, 179⟩ : S46), (⟨185, 185⟩ : S46), (⟨188, 190⟩ : S46), (⟨1632, 1641⟩ : S46), (⟨65296, 65305⟩ : S46)] : List (S46)))) else (if a0 = 2 then (some (([(⟨768, 879⟩ : S46), (⟨1155, 1161⟩ : S46), (⟨8400, 8412⟩ : S46), (⟨12441, 12442⟩ : S46)] : List (S46)))) else (if a0 = 4 then (some (([(⟨33, 35⟩ : S46), (⟨37, 42⟩ : S46), (⟨44, 47⟩ : S46), (⟨58, 59⟩ : S46), (⟨63, 64⟩ : S46), (⟨91, 93⟩ : S46), (⟨95, 95⟩ : S46), (⟨123, 123⟩ : S46), (⟨125, 125⟩ : S46), (⟨161, 161⟩ : S46), (⟨167, 167⟩ : S46), (⟨171, 171⟩ : S46), (⟨182, 183⟩ : S46), (⟨187, 187⟩ : S46), (⟨191, 191⟩ : S46), (⟨903, 903⟩ : S46), (⟨8208, 8231⟩ : S46), (⟨8240, 8259⟩ : S46), (⟨12289, 12291⟩ : S46)] : List (S46)))) else (if a0 = 5 then (some (([(⟨36, 36⟩ : S46), (⟨43, 43⟩ : S46), (⟨60, 62⟩ : S46), (⟨94, 94⟩ : S46), (⟨96, 96⟩ : S46), (⟨124, 124⟩ : S46), (⟨126, 126⟩ : S46), (⟨162, 166⟩ : S46), (⟨168, 169⟩ : S46), (⟨172, 172⟩ : S46), (⟨174, 177⟩ : S46), (⟨180, 180⟩ : S46), (⟨184, 184⟩ : S46), (⟨215, 215⟩ : S46), (⟨247, 247⟩ : S46), (⟨8352, 8384⟩ : S46), (⟨8592, 8959⟩ : S46), (⟨65533, 65533⟩ : S46), (⟨128512, 128591⟩ : S46)] : List (S46)))) else (if a0 = 1 then (some (([(⟨65, 90⟩ : S46), (⟨97, 122⟩ : S46), (⟨170, 170⟩ : S46), (⟨181, 181⟩ : S46), (⟨186, 186⟩ : S46), (⟨192, 214⟩ : S46), (⟨216, 246⟩ : S46), (⟨248, 687⟩ : S46), (⟨902, 902⟩ : S46), (⟨904, 1153⟩ : S46), (⟨1162, 1327⟩ : S46), (⟨4352, 4607⟩ : S46), (⟨7680, 8124⟩ : S46), (⟨8486, 8486⟩ : S46), (⟨8490, 8491⟩ : S46), (⟨12353, 12438⟩ : S46), (⟨12449, 12538⟩ : S46), (⟨19968, 40959⟩ : S46), (⟨44032, 55203⟩ : S46)] : List (S46)))) else (some ([] : List (S46))))))))) = some r := h
 clear h
 by_cases c2 : a0 = 6
 ·rw [if_pos c2] at H
  have c2b0 : (a0 == 6) = true := beq_iff_eq.mpr c2
  have c2b1 : (a0 != 6) = false := bne_eq_false_iff_eq.mpr c2
  clear c2
  obtain ⟨y103, hy103⟩ : ∃ y_ : List (S46), y_ = (([(⟨32, 32⟩ : S46), (⟨160, 160⟩ : S46), (⟨8192, 8202⟩ : S46), (⟨8232, 8233⟩ : S46), (⟨12288, 12288⟩ : S46)] : List (S46))) := ⟨_, rfl⟩
  replace H : (some y103) = some r := by first | (rw [hy103]; with_reducible exact H) | (have H2_ := (Option.bind_some _ _).symm.trans H; rw [hy103]; with_reducible exact H2_) | (have H2_ := (Option.bind_some _ _).symm.trans H; with_reducible exact H2_) | with_reducible exact H | (rw [hy103]; exact H) | exact H
  have Ny103 := Aside0.mk hy103
  clear hy103
  obtain rfl := Option.some.inj H
  go_enter Tryd.func61, Tryd.ntmps61
  go_wp2_with (first | ((with_reducible refine gate_dst (N := 11) rfl ?_); refine Kd.R_lit k46 _ 46 ?hg (N := 11) ?hd (xs := ([(⟨32, 32⟩ : S46), (⟨160, 160⟩ : S46), (⟨8192, 8202⟩ : S46), (⟨8232, 8233⟩ : S46), (⟨12288, 12288⟩ : S46)] : List (S46))) (inner := [.int .i32 32, .int .i32 32, .int .i32 160, .int .i32 160, .int .i32 8192, .int .i32 8202, .int .i32 8232, .int .i32 8233, .int .i32 12288, .int .i32 12288]) (ok := fun _ => True) (okp := fun _ => True) ?hr ?hp (fun _ hk => hk) trivial (Below.refl _ _) (Nat.le_refl _) (by simp) ?_; (case hd => rfl); (case hg => rfl); (case hr => first | (go_simp; done) | (go_simp; rfl)); (case hp => exact (Reps.c2 (show Kd.M k46 _ _ _ (⟨32, 32⟩ : S46) [.int .i32 32, .int .i32 32] from (k46_mkM _ _ _ (⟨32, 32⟩ : S46) )) (Reps.c2 (show Kd.M k46 _ _ _ (⟨160, 160⟩ : S46) [.int .i32 160, .int .i32 160] from (k46_mkM _ _ _ (⟨160, 160⟩ : S46) )) (Reps.c2 (show Kd.M k46 _ _ _ (⟨8192, 8202⟩ : S46) [.int .i32 8192, .int .i32 8202] from (k46_mkM _ _ _ (⟨8192, 8202⟩ : S46) )) (Reps.c2 (show Kd.M k46 _ _ _ (⟨8232, 8233⟩ : S46) [.int .i32 8232, .int .i32 8233] from (k46_mkM _ _ _ (⟨8232, 8233⟩ : S46) )) (Reps.c2 (show Kd.M k46 _ _ _ (⟨12288, 12288⟩ : S46) [.int .i32 12288, .int .i32 12288] from (k46_mkM _ _ _ (⟨12288, 12288⟩ : S46) )) (Reps.none _ _))))))); intro v104 w3 ho4 hb hg_ hnew_; clear hg_ hnew_; (first | rw [← Ny103.out] at ho4 | (simp only [Int.reduceToNat] at ho4; rw [← Ny103.out] at ho4)); have n0_ := Aside0.mk (Kd.R_lower ho4 (below_size (by repeat (first | (with_reducible first | exact HB.out | apply below_alloc | apply pw_below_drewN | apply below_drew1) | exact HB.out)))); have n1_ := Aside0.mk (below_step (by repeat (first | (with_reducible first | exact HB.out | apply below_alloc | apply pw_below_drewN | apply below_drew1) | exact HB.out)) hb); clear HB; have HO105 := n0_; have HB := n1_; clear n0_ n1_; clear hb ho4))
  go_ret
  exact ⟨_, by first | rfl | (simp [errW_none, errW_some] <;> rfl) | (simp [*, errW_none, errW_some] <;> rfl), by (with_reducible repeat (first | apply Kd.R_alloc | apply Kd.R_drewN | apply Kd.R_drew)); exact HO105.out, by repeat (first | (with_reducible first | exact HB.out | apply below_alloc | apply pw_below_drewN | apply below_drew1) | exact HB.out)⟩
 ·rw [if_neg c2] at H
  have c2b0 : (a0 == 6) = false := beq_eq_false_iff_ne.mpr c2
  have c2b1 : (a0 != 6) = true := bne_iff_ne.mpr c2
  by_cases c5 : a0 = 3
  ·rw [if_pos c5] at H
   have c5b0 : (a0 == 3) = true := beq_iff_eq.mpr c5
   have c5b1 : (a0 != 3) = false := bne_eq_false_iff_eq.mpr c5
   clear c5
   obtain ⟨y106, hy106⟩ : ∃ y_ : List (S46), y_ = (([(⟨48, 57⟩ : S46), (⟨178, 179⟩ : S46), (⟨185, 185⟩ : S46), (⟨188, 190⟩ : S46), (⟨1632, 1641⟩ : S46), (⟨65296, 65305⟩ : S46)] : List (S46))) := ⟨_, rfl⟩
   replace H : (some y106) = some r := by first | (rw [hy106]; with_reducible exact H) | (have H2_ := (Option.bind_some _ _).symm.trans H; rw [hy106]; with_reducible exact H2_) | (have H2_ := (Option.bind_some _ _).symm.trans H; with_reducible exact H2_) | with_reducible exact H | (rw [hy106]; exact H) | exact H
   have Ny106 := Aside0.mk hy106
   clear hy106
   obtain rfl := Option.some.inj H
   go_enter Tryd.func61, Tryd.ntmps61
   go_wp2_with (first | ((with_reducible refine gate_dst (N := 20) rfl ?_); refine Kd.R_lit k46 _ 46 ?hg (N := 20) ?hd (xs := ([(⟨48, 57⟩ : S46), (⟨178, 179⟩ : S46), (⟨185, 185⟩ : S46), (⟨188, 190⟩ : S46), (⟨1632, 1641⟩ : S46), (⟨65296, 65305⟩ : S46)] : List (S46))) (inner := [.int .i32 48, .int .i32 57, .int .i32 178, .int .i32 179, .int .i32 185, .int .i32 185, .int .i32 188, .int .i32 190, .int .i32 1632, .int .i32 1641, .int .i32 65296, .int .i32 65305]) (ok := fun _ => True) (okp := fun _ => True) ?hr ?hp (fun _ hk => hk) trivial (Below.refl _ _) (Nat.le_refl _) (by simp) ?_; (case hd => rfl); (case hg => rfl); (case hr => first | (go_simp; done) | (go_simp; rfl)); (case hp => exact (Reps.c2 (show Kd.M k46 _ _ _ (⟨48, 57⟩ : S46) [.int .i32 48, .int .i32 57] from (k46_mkM _ _ _ (⟨48, 57⟩ : S46) )) (Reps.c2 (show Kd.M k46 _ _ _ (⟨178, 179⟩ : S46) [.int .i32 178, .int .i32 179] from (k46_mkM _ _ _ (⟨178, 179⟩ : S46) )) (Reps.c2 (show Kd.M k46 _ _ _ (⟨185, 185⟩ : S46) [.int .i32 185, .int .i32 185] from (k46_mkM _ _ _ (⟨185, 185⟩ : S46) )) (Reps.c2 (show Kd.M k46 _ _ _ (⟨188, 190⟩ : S46) [.int .i32 188, .int .i32 190] from (k46_mkM _ _ _ (⟨188, 190⟩ : S46) )) (Reps.c2 (show Kd.M k46 _ _ _ (⟨1632, 1641⟩ : S46) [.int .i32 1632, .int .i32 1641] from (k46_mkM _ _ _ (⟨1632, 1641⟩ : S46) )) (Reps.c2 (show Kd.M k46 _ _ _ (⟨65296, 65305⟩ : S46) [.int .i32 65296, .int .i32 65305] from (k46_mkM _ _ _ (⟨65296, 65305⟩ : S46) )) (Reps.none _ _)))))))); intro v107 w6 ho7 hb hg_ hnew_; clear hg_ hnew_; (first | rw [← Ny106.out] at ho7 | (simp only [Int.reduceToNat] at ho7; rw [← Ny106.out] at ho7)); have n0_ := Aside0.mk (Kd.R_lower ho7 (below_size (by repeat (first | (with_reducible first | exact HB.out | apply below_alloc | apply pw_below_drewN | apply below_drew1) | exact HB.out)))); have n1_ := Aside0.mk (below_step (by repeat (first | (with_reducible first | exact HB.out | apply below_alloc | apply pw_below_drewN | apply below_drew1) | exact HB.out)) hb); clear HB; have HO108 := n0_; have HB := n1_; clear n0_ n1_; clear hb ho7))
   go_ret
   exact ⟨_, by first | rfl | (simp [errW_none, errW_some] <;> rfl) | (simp [*, errW_none, errW_some] <;> rfl), by (with_reducible repeat (first | apply Kd.R_alloc | apply Kd.R_drewN | apply Kd.R_drew)); exact HO108.out, by repeat (first | (with_reducible first | exact HB.out | apply below_alloc | apply pw_below_drewN | apply below_drew1) | exact HB.out)⟩
  ·rw [if_neg c5] at H
   have c5b0 : (a0 == 3) = false := beq_eq_false_iff_ne.mpr c5
   have c5b1 : (a0 != 3) = true := bne_iff_ne.mpr c5
   by_cases c8 : a0 = 2
   ·rw [if_pos c8] at H
    have c8b0 : (a0 == 2) = true := beq_iff_eq.mpr c8
    have c8b1 : (a0 != 2) = false := bne_eq_false_iff_eq.mpr c8
    clear c8
    obtain ⟨y109, hy109⟩ : ∃ y_ : List (S46), y_ = (([(⟨768, 879⟩ : S46), (⟨1155, 1161⟩ : S46), (⟨8400, 8412⟩ : S46), (⟨12441, 12442⟩ : S46)] : List (S46))) := ⟨_, rfl⟩
    replace H : (some y109) = some r := by first | (rw [hy109]; with_reducible exact H) | (have H2_ := (Option.bind_some _ _).symm.trans H; rw [hy109]; with_reducible exact H2_) | (have H2_ := (Option.bind_some _ _).symm.trans H; with_reducible exact H2_) | with_reducible exact H | (rw [hy109]; exact H) | exact H
    have Ny109 := Aside0.mk hy109
    clear hy109
    obtain rfl := Option.some.inj H
    go_enter Tryd.func61, Tryd.ntmps61
    go_wp2_with (first | ((with_reducible refine gate_dst (N := 27) rfl ?_); refine Kd.R_lit k46 _ 46 ?hg (N := 27) ?hd (xs := ([(⟨768, 879⟩ : S46), (⟨1155, 1161⟩ : S46), (⟨8400, 8412⟩ : S46), (⟨12441, 12442⟩ : S46)] : List (S46))) (inner := [.int .i32 768, .int .i32 879, .int .i32 1155, .int .i32 1161, .int .i32 8400, .int .i32 8412, .int .i32 12441, .int .i32 12442]) (ok := fun _ => True) (okp := fun _ => True) ?hr ?hp (fun _ hk => hk) trivial (Below.refl _ _) (Nat.le_refl _) (by simp) ?_; (case hd => rfl); (case hg => rfl); (case hr => first | (go_simp; done) | (go_simp; rfl)); (case hp => exact (Reps.c2 (show Kd.M k46 _ _ _ (⟨768, 879⟩ : S46) [.int .i32 768, .int .i32 879] from (k46_mkM _ _ _ (⟨768, 879⟩ : S46) )) (Reps.c2 (show Kd.M k46 _ _ _ (⟨1155, 1161⟩ : S46) [.int .i32 1155, .int .i32 1161] from (k46_mkM _ _ _ (⟨1155, 1161⟩ : S46) )) (Reps.c2 (show Kd.M k46 _ _ _ (⟨8400, 8412⟩ : S46) [.int .i32 8400, .int .i32 8412] from (k46_mkM _ _ _ (⟨8400, 8412⟩ : S46) )) (Reps.c2 (show Kd.M k46 _ _ _ (⟨12441, 12442⟩ : S46) [.int .i32 12441, .int .i32 12442] from (k46_mkM _ _ _ (⟨12441, 12442⟩ : S46) )) (Reps.none _ _)))))); intro v110 w9 ho10 hb hg_ hnew_; clear hg_ hnew_; (first | rw [← Ny109.out] at ho10 | (simp only [Int.reduceToNat] at ho10; rw [← Ny109.out] at ho10)); have n0_ := Aside0.mk (Kd.R_lower ho10 (below_size (by repeat (first | (with_reducible first | exact HB.out | apply below_alloc | apply pw_below_drewN | apply below_drew1) | exact HB.out)))); have n1_ := Aside0.mk (below_step (by repeat (first | (with_reducible first | exact HB.out | apply below_alloc | apply pw_below_drewN | apply below_drew1) | exact HB.out)) hb); clear HB; have HO111 := n0_; have HB := n1_; clear n0_ n1_; clear hb ho10))
    go_ret
    exact ⟨_, by first | rfl | (simp [errW_none, errW_some] <;> rfl) | (simp [*, errW_none, errW_some] <;> rfl), by (with_reducible repeat (first | apply Kd.R_alloc | apply Kd.R_drewN | apply Kd.R_drew)); exact HO111.out, by repeat (first | (with_reducible first | exact HB.out | apply below_alloc | apply pw_below_drewN | apply below_drew1) | exact HB.out)⟩
   ·rw [if_neg c8] at H
    have c8b0 : (a0 == 2) = false := beq_eq_false_iff_ne.mpr c8
    have c8b1 : (a0 != 2) = true := bne_iff_ne.mpr c8
    by_cases c11 : a0 = 4
    ·rw [if_pos c11] at H
     have c11b0 : (a0 == 4) = true := beq_iff_eq.mpr c11
     have c11b1 : (a0 != 4) = false := bne_eq_false_iff_eq.mpr c11
     clear c11
     obtain ⟨y112, hy112⟩ : ∃ y_ : List (S46), y_ = (([(⟨33, 35⟩ : S46), (⟨37, 42⟩ : S46), (⟨44, 47⟩ : S46), (⟨58, 59⟩ : S46), (⟨63, 64⟩ : S46), (⟨91, 93⟩ : S46), (⟨95, 95⟩ : S46), (⟨123, 123⟩ : S46), (⟨125, 125⟩ : S46), (⟨161, 161⟩ : S46), (⟨167, 167⟩ : S46), (⟨171, 171⟩ : S46), (⟨182, 183⟩ : S46), (⟨187, 187⟩ : S46), (⟨191, 191⟩ : S46), (⟨903, 903⟩ : S46), (⟨8208, 8231⟩ : S46), (⟨8240, 8259⟩ : S46), (⟨12289, 12291⟩ : S46)] : List (S46))) := ⟨_, rfl⟩
     replace H : (some y112) = some r := by first | (rw [hy112]; with_reducible exact H) | (have H2_ := (Option.bind_some _ _).symm.trans H; rw [hy112]; with_reducible exact H2_) | (have H2_ := (Option.bind_some _ _).symm.trans H; with_reducible exact H2_) | with_reducible exact H | (rw [hy112]; exact H) | exact H
     have Ny112 := Aside0.mk hy112
     clear hy112
     obtain rfl := Option.some.inj H
     go_enter Tryd.func61, Tryd.ntmps61
     go_wp2_with (first | ((with_reducible refine gate_dst (N := 49) rfl ?_); refine Kd.R_lit k46 _ 46 ?hg (N := 49) ?hd (xs := ([(⟨33, 35⟩ : S46), (⟨37, 42⟩ : S46), (⟨44, 47⟩ : S46), (⟨58, 59⟩ : S46), (⟨63, 64⟩ : S46), (⟨91, 93⟩ : S46), (⟨95, 95⟩ : S46), (⟨123, 123⟩ : S46), (⟨125, 125⟩ : S46), (⟨161, 161⟩ : S46), (⟨167, 167⟩ : S46), (⟨171, 171⟩ : S46), (⟨182, 183⟩ : S46), (⟨187, 187⟩ : S46), (⟨191, 191⟩ : S46), (⟨903, 903⟩ : S46), (⟨8208, 8231⟩ : S46), (⟨8240, 8259⟩ : S46), (⟨12289, 12291⟩ : S46)] : List (S46))) (inner := [.int .i32 33, .int .i32 35, .int .i32 37, .int .i32 42, .int .i32 44, .int .i32 47, .int .i32 58, .int .i32 59, .int .i32 63, .int .i32 64, .int .i32 91, .int .i32 93, .int .i32 95, .int .i32 95, .int .i32 123, .int .i32 123, .int .i32 125, .int .i32 125, .int .i32 161, .int .i32 161, .int .i32 167, .int .i32 167, .int .i32 171, .int .i32 171, .int .i32 182, .int .i32 183, .int .i32 187, .int .i32 187, .int .i32 191, .int .i32 191, .int .i32 903, .int .i32 903, .int .i32 8208, .int .i32 8231, .int .i32 8240, .int .i32 8259, .int .i32 12289, .int .i32 12291]) (ok := fun _ => True) (okp := fun _ => True) ?hr ?hp (fun _ hk => hk) trivial (Below.refl _ _) (Nat.le_refl _) (by simp) ?_; (case hd => rfl); (case hg => rfl); (case hr => first | (go_simp; done) | (go_simp; rfl)); (case hp => exact (Reps.c2 (show Kd.M k46 _ _ _ (⟨33, 35⟩ : S46) [.int .i32 33, .int .i32 35] from (k46_mkM _ _ _ (⟨33, 35⟩ : S46) )) (Reps.c2 (show Kd.M k46 _ _ _ (⟨37, 42⟩ : S46) [.int .i32 37, .int .i32 42] from (k46_mkM _ _ _ (⟨37, 42⟩ : S46) )) (Reps.c2 (show Kd.M k46 _ _ _ (⟨44, 47⟩ : S46) [.int .i32 44, .int .i32 47] from (k46_mkM _ _ _ (⟨44, 47⟩ : S46) )) (Reps.c2 (show Kd.M k46 _ _ _ (⟨58, 59⟩ : S46) [.int .i32 58, .int .i32 59] from (k46_mkM _ _ _ (⟨58, 59⟩ : S46) )) (Reps.c2 (show Kd.M k46 _ _ _ (⟨63, 64⟩ : S46) [.int .i32 63, .int .i32 64] from (k46_mkM _ _ _ (⟨63, 64⟩ : S46) )) (Reps.c2 (show Kd.M k46 _ _ _ (⟨91, 93⟩ : S46) [.int .i32 91, .int .i32 93] from (k46_mkM _ _ _ (⟨91, 93⟩ : S46) )) (Reps.c2 (show Kd.M k46 _ _ _ (⟨95, 95⟩ : S46) [.int .i32 95, .int .i32 95] from (k46_mkM _ _ _ (⟨95, 95⟩ : S46) )) (Reps.c2 (show Kd.M k46 _ _ _ (⟨123, 123⟩ : S46) [.int .i32 123, .int .i32 123] from (k46_mkM _ _ _ (⟨123, 123⟩ : S46) )) (Reps.c2 (show Kd.M k46 _ _ _ (⟨125, 125⟩ : S46) [.int .i32 125, .int .i32 125] from (k46_mkM _ _ _ (⟨125, 125⟩ : S46) )) (Reps.c2 (show Kd.M k46 _ _ _ (⟨161, 161⟩ : S46) [.int .i32 161, .int .i32 161] from (k46_mkM _ _ _ (⟨161, 161⟩ : S46) )) (Reps.c2 (show Kd.M k46 _ _ _ (⟨167, 167⟩ : S46) [.int .i32 167, .int .i32 167] from (k46_mkM _ _ _ (⟨167, 167⟩ : S46) )) (Reps.c2 (show Kd.M k46 _ _ _ (⟨171, 171⟩ : S46) [.int .i32 171, .int .i32 171] from (k46_mkM _ _ _ (⟨171, 171⟩ : S46) )) (Reps.c2 (show Kd.M k46 _ _ _ (⟨182, 183⟩ : S46) [.int .i32 182, .int .i32 183] from (k46_mkM _ _ _ (⟨182, 183⟩ : S46) )) (Reps.c2 (show Kd.M k46 _ _ _ (⟨187, 187⟩ : S46) [.int .i32 187, .int .i32 187] from (k46_mkM _ _ _ (⟨187, 187⟩ : S46) )) (Reps.c2 (show Kd.M k46 _ _ _ (⟨191, 191⟩ : S46) [.int .i32 191, .int .i32 191] from (k46_mkM _ _ _ (⟨191, 191⟩ : S46) )) (Reps.c2 (show Kd.M k46 _ _ _ (⟨903, 903⟩ : S46) [.int .i32 903, .int .i32 903] from (k46_mkM _ _ _ (⟨903, 903⟩ : S46) )) (Reps.c2 (show Kd.M k46 _ _ _ (⟨8208, 8231⟩ : S46) [.int .i32 8208, .int .i32 8231] from (k46_mkM _ _ _ (⟨8208, 8231⟩ : S46) )) (Reps.c2 (show Kd.M k46 _ _ _ (⟨8240, 8259⟩ : S46) [.int .i32 8240, .int .i32 8259] from (k46_mkM _ _ _ (⟨8240, 8259⟩ : S46) )) (Reps.c2 (show Kd.M k46 _ _ _ (⟨12289, 12291⟩ : S46) [.int .i32 12289, .int .i32 12291] from (k46_mkM _ _ _ (⟨12289, 12291⟩ : S46) )) (Reps.none _ _))))))))))))))))))))); intro v113 w12 ho13 hb hg_ hnew_; clear hg_ hnew_; (first | rw [← Ny112.out] at ho13 | (simp only [Int.reduceToNat] at ho13; rw [← Ny112.out] at ho13)); have n0_ := Aside0.mk (Kd.R_lower ho13 (below_size (by repeat (first | (with_reducible first | exact HB.out | apply below_alloc | apply pw_below_drewN | apply below_drew1) | exact HB.out)))); have n1_ := Aside0.mk (below_step (by repeat (first | (with_reducible first | exact HB.out | apply below_alloc | apply pw_below_drewN | apply below_drew1) | exact HB.out)) hb); clear HB; have HO114 := n0_; have HB := n1_; clear n0_ n1_; clear hb ho13))
     go_ret
     exact ⟨_, by first | rfl | (simp [errW_none, errW_some] <;> rfl) | (simp [*, errW_none, errW_some] <;> rfl), by (with_reducible repeat (first | apply Kd.R_alloc | apply Kd.R_drewN | apply Kd.R_drew)); exact HO114.out, by repeat (first | (with_reducible first | exact HB.out | apply below_alloc | apply pw_below_drewN | apply below_drew1) | exact HB.out)⟩
    ·rw [if_neg c11] at H
     have c11b0 : (a0 == 4) = false := beq_eq_false_iff_ne.mpr c11
     have c11b1 : (a0 != 4) = true := bne_iff_ne.mpr c11
     by_cases c14 : a0 = 5
     ·rw [if_pos c14] at H
      have c14b0 : (a0 == 5) = true := beq_iff_eq.mpr c14
      have c14b1 : (a0 != 5) = false := bne_eq_false_iff_eq.mpr c14
      clear c14
      obtain ⟨y115, hy115⟩ : ∃ y_ : List (S46), y_ = (([(⟨36, 36⟩ : S46), (⟨43, 43⟩ : S46), (⟨60, 62⟩ : S46), (⟨94, 94⟩ : S46), (⟨96, 96⟩ : S46), (⟨124, 124⟩ : S46), (⟨126, 126⟩ : S46), (⟨162, 166⟩ : S46), (⟨168, 169⟩ : S46), (⟨172, 172⟩ : S46), (⟨174, 177⟩ : S46), (⟨180, 180⟩ : S46), (⟨184, 184⟩ : S46), (⟨215, 215⟩ : S46), (⟨247, 247⟩ : S46), (⟨8352, 8384⟩ : S46), (⟨8592, 8959⟩ : S46), (⟨65533, 65533⟩ : S46), (⟨128512, 128591⟩ : S46)] : List (S46))) := ⟨_, rfl⟩
      replace H : (some y115) = some r := by first | (rw [hy115]; with_reducible exact H) | (have H2_ := (Option.bind_some _ _).symm.trans H; rw [hy115]; with_reducible exact H2_) | (have H2_ := (Option.bind_some _ _).symm.trans H; with_reducible exact H2_) | with_reducible exact H | (rw [hy115]; exact H) | exact H
      have Ny115 := Aside0.mk hy115
      clear hy115
      obtain rfl := Option.some.inj H
      go_enter Tryd.func61, Tryd.ntmps61
      go_wp2_with (first | ((with_reducible refine gate_dst (N := 71) rfl ?_); refine Kd.R_lit k46 _ 46 ?hg (N := 71) ?hd (xs := ([(⟨36, 36⟩ : S46), (⟨43, 43⟩ : S46), (⟨60, 62⟩ : S46), (⟨94, 94⟩ : S46), (⟨96, 96⟩ : S46), (⟨124, 124⟩ : S46), (⟨126, 126⟩ : S46), (⟨162, 166⟩ : S46), (⟨168, 169⟩ : S46), (⟨172, 172⟩ : S46), (⟨174, 177⟩ : S46), (⟨180, 180⟩ : S46), (⟨184, 184⟩ : S46), (⟨215, 215⟩ : S46), (⟨247, 247⟩ : S46), (⟨8352, 8384⟩ : S46), (⟨8592, 8959⟩ : S46), (⟨65533, 65533⟩ : S46), (⟨128512, 128591⟩ : S46)] : List (S46))) (inner := [.int .i32 36, .int .i32 36, .int .i32 43, .int .i32 43, .int .i32 60, .int .i32 62, .int .i32 94, .int .i32 94, .int .i32 96, .int .i32 96, .int .i32 124, .int .i32 124, .int .i32 126, .int .i32 126, .int .i32 162, .int .i32 166, .int .i32 168, .int .i32 169, .int .i32 172, .int .i32 172, .int .i32 174, .int .i32 177, .int .i32 180, .int .i32 180, .int .i32 184, .int .i32 184, .int .i32 215, .int .i32 215, .int .i32 247, .int .i32 247, .int .i32 8352, .int .i32 8384, .int .i32 8592, .int .i32 8959, .int .i32 65533, .int .i32 65533, .int .i32 128512, .int .i32 128591]) (ok := fun _ => True) (okp := fun _ => True) ?hr ?hp (fun _ hk => hk) trivial (Below.refl _ _) (Nat.le_refl _) (by simp) ?_; (case hd => rfl); (case hg => rfl); (case hr => first | (go_simp; done) | (go_simp; rfl)); (case hp => exact (Reps.c2 (show Kd.M k46 _ _ _ (⟨36, 36⟩ : S46) [.int .i32 36, .int .i32 36] from (k46_mkM _ _ _ (⟨36, 36⟩ : S46) )) (Reps.c2 (show Kd.M k46 _ _ _ (⟨43, 43⟩ : S46) [.int .i32 43, .int .i32 43] from (k46_mkM _ _ _ (⟨43, 43⟩ : S46) )) (Reps.c2 (show Kd.M k46 _ _ _ (⟨60, 62⟩ : S46) [.int .i32 60, .int .i32 62] from (k46_mkM _ _ _ (⟨60, 62⟩ : S46) )) (Reps.c2 (show Kd.M k46 _ _ _ (⟨94, 94⟩ : S46) [.int .i32 94, .int .i32 94] from (k46_mkM _ _ _ (⟨94, 94⟩ : S46) )) (Reps.c2 (show Kd.M k46 _ _ _ (⟨96, 96⟩ : S46) [.int .i32 96, .int .i32 96] from (k46_mkM _ _ _ (⟨96, 96⟩ : S46) )) (Reps.c2 (show Kd.M k46 _ _ _ (⟨124, 124⟩ : S46) [.int .i32 124, .int .i32 124] from (k46_mkM _ _ _ (⟨124, 124⟩ : S46) )) (Reps.c2 (show Kd.M k46 _ _ _ (⟨126, 126⟩ : S46) [.int .i32 126, .int .i32 126] from (k46_mkM _ _ _ (⟨126, 126⟩ : S46) )) (Reps.c2 (show Kd.M k46 _ _ _ (⟨162, 166⟩ : S46) [.int .i32 162, .int .i32 166] from (k46_mkM _ _ _ (⟨162, 166⟩ : S46) )) (Reps.c2 (show Kd.M k46 _ _ _ (⟨168, 169⟩ : S46) [.int .i32 168, .int .i32 169] from (k46_mkM _ _ _ (⟨168, 169⟩ : S46) )) (Reps.c2 (show Kd.M k46 _ _ _ (⟨172, 172⟩ : S46) [.int .i32 172, .int .i32 172] from (k46_mkM _ _ _ (⟨172, 172⟩ : S46) )) (Reps.c2 (show Kd.M k46 _ _ _ (⟨174, 177⟩ : S46) [.int .i32 174, .int .i32 177] from (k46_mkM _ _ _ (⟨174, 177⟩ : S46) )) (Reps.c2 (show Kd.M k46 _ _ _ (⟨180, 180⟩ : S46) [.int .i32 180, .int .i32 180] from (k46_mkM _ _ _ (⟨180, 180⟩ : S46) )) (Reps.c2 (show Kd.M k46 _ _ _ (⟨184, 184⟩ : S46) [.int .i32 184, .int .i32 184] from (k46_mkM _ _ _ (⟨184, 184⟩ : S46) )) (Reps.c2 (show Kd.M k46 _ _ _ (⟨215, 215⟩ : S46) [.int .i32 215, .int .i32 215] from (k46_mkM _ _ _ (⟨215, 215⟩ : S46) )) (Reps.c2 (show Kd.M k46 _ _ _ (⟨247, 247⟩ : S46) [.int .i32 247, .int .i32 247] from (k46_mkM _ _ _ (⟨247, 247⟩ : S46) )) (Reps.c2 (show Kd.M k46 _ _ _ (⟨8352, 8384⟩ : S46) [.int .i32 8352, .int .i32 8384] from (k46_mkM _ _ _ (⟨8352, 8384⟩ : S46) )) (Reps.c2 (show Kd.M k46 _ _ _ (⟨8592, 8959⟩ : S46) [.int .i32 8592, .int .i32 8959] from (k46_mkM _ _ _ (⟨8592, 8959⟩ : S46) )) (Reps.c2 (show Kd.M k46 _ _ _ (⟨65533, 65533⟩ : S46) [.int .i32 65533, .int .i32 65533] from (k46_mkM _ _ _ (⟨65533, 65533⟩ : S46) )) (Reps.c2 (show Kd.M k46 _ _ _ (⟨128512, 128591⟩ : S46) [.int .i32 128512, .int .i32 128591] from (k46_mkM _ _ _ (⟨128512, 128591⟩ : S46) )) (Reps.none _ _))))))))))))))))))))); intro v116 w15 ho16 hb hg_ hnew_; clear hg_ hnew_; (first | rw [← Ny115.out] at ho16 | (simp only [Int.reduceToNat] at ho16; rw [← Ny115.out] at ho16)); have n0_ := Aside0.mk (Kd.R_lower ho16 (below_size (by repeat (first | (with_reducible first | exact HB.out | apply below_alloc | apply pw_below_drewN | apply below_drew1) | exact HB.out)))); have n1_ := Aside0.mk (below_step (by repeat (first | (with_reducible first | exact HB.out | apply below_alloc | apply pw_below_drewN | apply below_drew1) | exact HB.out)) hb); clear HB; have HO117 := n0_; have HB := n1_; clear n0_ n1_; clear hb ho16))
      go_ret
      exact ⟨_, by first | rfl | (simp [errW_none, errW_some] <;> rfl) | (simp [*, errW_none, errW_some] <;> rfl), by (with_reducible repeat (first | apply Kd.R_alloc | apply Kd.R_drewN | apply Kd.R_drew)); exact HO117.out, by repeat (first | (with_reducible first | exact HB.out | apply below_alloc | apply pw_below_drewN | apply below_drew1) | exact HB.out)⟩
     ·rw [if_neg c14] at H
      have c14b0 : (a0 == 5) = false := beq_eq_false_iff_ne.mpr c14
      have c14b1 : (a0 != 5) = true := bne_iff_ne.mpr c14
      by_cases c17 : a0 = 1
      ·rw [if_pos c17] at H
       have c17b0 : (a0 == 1) = true := beq_iff_eq.mpr c17
       have c17b1 : (a0 != 1) = false := bne_eq_false_iff_eq.mpr c17
       clear c17
       obtain ⟨y118, hy118⟩ : ∃ y_ : List (S46), y_ = (([(⟨65, 90⟩ : S46), (⟨97, 122⟩ : S46), (⟨170, 170⟩ : S46), (⟨181, 181⟩ : S46), (⟨186, 186⟩ : S46), (⟨192, 214⟩ : S46), (⟨216, 246⟩ : S46), (⟨248, 687⟩ : S46), (⟨902, 902⟩ : S46), (⟨904, 1153⟩ : S46), (⟨1162, 1327⟩ : S46), (⟨4352, 4607⟩ : S46), (⟨7680, 8124⟩ : S46), (⟨8486, 8486⟩ : S46), (⟨8490, 8491⟩ : S46), (⟨12353, 12438⟩ : S46), (⟨12449, 12538⟩ : S46), (⟨19968, 40959⟩ : S46), (⟨44032, 55203⟩ : S46)] : List (S46))) := ⟨_, rfl⟩
       replace H : (some y118) = some r := by first | (rw [hy118]; with_reducible exact H) | (have H2_ := (Option.bind_some _ _).symm.trans H; rw [hy118]; with_reducible exact H2_) | (have H2_ := (Option.bind_some _ _).symm.trans H; with_reducible exact H2_) | with_reducible exact H | (rw [hy118]; exact H) | exact H
       have Ny118 := Aside0.mk hy118
       clear hy118
       obtain rfl := Option.some.inj H
       go_enter Tryd.func61, Tryd.ntmps61
       go_wp2_with (first | ((with_reducible refine gate_dst (N := 93) rfl ?_); refine Kd.R_lit k46 _ 46 ?hg (N := 93) ?hd (xs := ([(⟨65, 90⟩ : S46), (⟨97, 122⟩ : S46), (⟨170, 170⟩ : S46), (⟨181, 181⟩ : S46), (⟨186, 186⟩ : S46), (⟨192, 214⟩ : S46), (⟨216, 246⟩ : S46), (⟨248, 687⟩ : S46), (⟨902, 902⟩ : S46), (⟨904, 1153⟩ : S46), (⟨1162, 1327⟩ : S46), (⟨4352, 4607⟩ : S46), (⟨7680, 8124⟩ : S46), (⟨8486, 8486⟩ : S46), (⟨8490, 8491⟩ : S46), (⟨12353, 12438⟩ : S46), (⟨12449, 12538⟩ : S46), (⟨19968, 40959⟩ : S46), (⟨44032, 55203⟩ : S46)] : List (S46))) (inner := [.int .i32 65, .int .i32 90, .int .i32 97, .int .i32 122, .int .i32 170, .int .i32 170, .int .i32 181, .int .i32 181, .int .i32 186, .int .i32 186, .int .i32 192, .int .i32 214, .int .i32 216, .int .i32 246, .int .i32 248, .int .i32 687, .int .i32 902, .int .i32 902, .int .i32 904, .int .i32 1153, .int .i32 1162, .int .i32 1327, .int .i32 4352, .int .i32 4607, .int .i32 7680, .int .i32 8124, .int .i32 8486, .int .i32 8486, .int .i32 8490, .int .i32 8491, .int .i32 12353, .int .i32 12438, .int .i32 12449, .int .i32 12538, .int .i32 19968, .int .i32 40959, .int .i32 44032, .int .i32 55203]) (ok := fun _ => True) (okp := fun _ => True) ?hr ?hp (fun _ hk => hk) trivial (Below.refl _ _) (Nat.le_refl _) (by simp) ?_; (case hd => rfl); (case hg => rfl); (case hr => first | (go_simp; done) | (go_simp; rfl)); (case hp => exact (Reps.c2 (show Kd.M k46 _ _ _ (⟨65, 90⟩ : S46) [.int .i32 65, .int .i32 90] from (k46_mkM _ _ _ (⟨65, 90⟩ : S46) )) (Reps.c2 (show Kd.M k46 _ _ _ (⟨97, 122⟩ : S46) [.int .i32 97, .int .i32 122] from (k46_mkM _ _ _ (⟨97, 122⟩ : S46) )) (Reps.c2 (show Kd.M k46 _ _ _ (⟨170, 170⟩ : S46) [.int .i32 170, .int .i32 170] from (k46_mkM _ _ _ (⟨170, 170⟩ : S46) )) (Reps.c2 (show Kd.M k46 _ _ _ (⟨181, 181⟩ : S46) [.int .i32 181, .int .i32 181] from (k46_mkM _ _ _ (⟨181, 181⟩ : S46) )) (Reps.c2 (show Kd.M k46 _ _ _ (⟨186, 186⟩ : S46) [.int .i32 186, .int .i32 186] from (k46_mkM _ _ _ (⟨186, 186⟩ : S46) )) (Reps.c2 (show Kd.M k46 _ _ _ (⟨192, 214⟩ : S46) [.int .i32 192, .int .i32 214] from (k46_mkM _ _ _ (⟨192, 214⟩ : S46) )) (Reps.c2 (show Kd.M k46 _ _ _ (⟨216, 246⟩ : S46) [.int .i32 216, .int .i32 246] from (k46_mkM _ _ _ (⟨216, 246⟩ : S46) )) (Reps.c2 (show Kd.M k46 _ _ _ (⟨248, 687⟩ : S46) [.int .i32 248, .int .i32 687] from (k46_mkM _ _ _ (⟨248, 687⟩ : S46) )) (Reps.c2 (show Kd.M k46 _ _ _ (⟨902, 902⟩ : S46) [.int .i32 902, .int .i32 902] from (k46_mkM _ _ _ (⟨902, 902⟩ : S46) )) (Reps.c2 (show Kd.M k46 _ _ _ (⟨904, 1153⟩ : S46) [.int .i32 904, .int .i32 1153] from (k46_mkM _ _ _ (⟨904, 1153⟩ : S46) )) (Reps.c2 (show Kd.M k46 _ _ _ (⟨1162, 1327⟩ : S46) [.int .i32 1162, .int .i32 1327] from (k46_mkM _ _ _ (⟨1162, 1327⟩ : S46) )) (Reps.c2 (show Kd.M k46 _ _ _ (⟨4352, 4607⟩ : S46) [.int .i32 4352, .int .i32 4607] from (k46_mkM _ _ _ (⟨4352, 4607⟩ : S46) )) (Reps.c2 (show Kd.M k46 _ _ _ (⟨7680, 8124⟩ : S46) [.int .i32 7680, .int .i32 8124] from (k46_mkM _ _ _ (⟨7680, 8124⟩ : S46) )) (Reps.c2 (show Kd.M k46 _ _ _ (⟨8486, 8486⟩ : S46) [.int .i32 8486, .int .i32 8486] from (k46_mkM _ _ _ (⟨8486, 8486⟩ : S46) )) (Reps.c2 (show Kd.M k46 _ _ _ (⟨8490, 8491⟩ : S46) [.int .i32 8490, .int .i32 8491] from (k46_mkM _ _ _ (⟨8490, 8491⟩ : S46) )) (Reps.c2 (show Kd.M k46 _ _ _ (⟨12353, 12438⟩ : S46) [.int .i32 12353, .int .i32 12438] from (k46_mkM _ _ _ (⟨12353, 12438⟩ : S46) )) (Reps.c2 (show Kd.M k46 _ _ _ (⟨12449, 12538⟩ : S46) [.int .i32 12449, .int .i32 12538] from (k46_mkM _ _ _ (⟨12449, 12538⟩ : S46) )) (Reps.c2 (show Kd.M k46 _ _ _ (⟨19968, 40959⟩ : S46) [.int .i32 19968, .int .i32 40959] from (k46_mkM _ _ _ (⟨19968, 40959⟩ : S46) )) (Reps.c2 (show Kd.M k46 _ _ _ (⟨44032, 55203⟩ : S46) [.int .i32 44032, .int .i32 55203] from (k46_mkM _ _ _ (⟨44032, 55203⟩ : S46) )) (Reps.none _ _))))))))))))))))))))); intro v119 w18 ho19 hb hg_ hnew_; clear hg_ hnew_; (first | rw [← Ny118.out] at ho19 | (simp only [Int.reduceToNat] at ho19; rw [← Ny118.out] at ho19)); have n0_ := Aside0.mk (Kd.R_lower ho19 (below_size (by repeat (first | (with_reducible first | exact HB.out | apply below_alloc | apply pw_below_drewN | apply below_drew1) | exact HB.out)))); have n1_ := Aside0.mk (below_step (by repeat (first | (with_reducible first | exact HB.out | apply below_alloc | apply pw_below_drewN | apply below_drew1) | exact HB.out)) hb); clear HB; have HO120 := n0_; have HB := n1_; clear n0_ n1_; clear hb ho19))
       go_ret
       exact ⟨_, by first | rfl | (simp [errW_none, errW_some] <;> rfl) | (simp [*, errW_none, errW_some] <;> rfl), by (with_reducible repeat (first | apply Kd.R_alloc | apply Kd.R_drewN | apply Kd.R_drew)); exact HO120.out, by repeat (first | (with_reducible first | exact HB.out | apply below_alloc | apply pw_below_drewN | apply below_drew1) | exact HB.out)⟩
      ·rw [if_neg c17] at H
       have c17b0 : (a0 == 1) = false := beq_eq_false_iff_ne.mpr c17
       have c17b1 : (a0 != 1) = true := bne_iff_ne.mpr c17
       obtain rfl := Option.some.inj H
       go_enter Tryd.func61, Tryd.ntmps61
       go_wp2
       go_ret
       exact ⟨_, by first | rfl | (simp [errW_none, errW_some] <;> rfl) | (simp [*, errW_none, errW_some] <;> rfl), by first | exact Kd.R_nil _ _ _ _ _ | exact Kd.N_nil _ _ _ _ _ | exact Kd.V_nil _ _ _ _ _ | exact Kd.Q_nil _ _ _ _ _ | exact Kd.S_nil _ _ _ _ _, by repeat (first | (with_reducible first | exact HB.out | apply below_alloc | apply pw_below_drewN | apply below_drew1) | exact HB.out)⟩
end Go.Proofs.YthffpkdadffinaaDoor.X
namespace Go.Proofs.YthffpkdadffinaaDoor.Hp
set_option linter.unusedVariables false
set_option linter.unusedSimpArgs false
open Go.RowKit Go.Proofs.YthffpkdadffinaaDoorW.PrintWords
structure Chg (S : Nat → Prop) (w w' : World) : Prop where
  os : w'.os = w.os
  tape : w'.tape = w.tape
  output : w'.output = w.output
  size : w.heap.size ≤ w'.heap.size
  keep : ∀ k, k < w.heap.size → ¬ S k → w'.heap[k]? = w.heap[k]?
namespace Chg
variable {S S' : Nat → Prop} {w w' w1 w2 : World}
theorem refl (S : Nat → Prop) (w : World) : Chg S w w := ⟨rfl, rfl, rfl, Nat.le_refl _, fun _ _ _ => rfl⟩
theorem mono (h : Chg S w w') (hs : ∀ k, k < w.heap.size → S k → S' k) : Chg S' w w' :=
  ⟨h.os, h.tape, h.output, h.size, fun k hk hn => h.keep k hk (fun h2 => hn (hs k hk h2))⟩
theorem trans (h : Chg S w w1) (k : Chg S' w1 w2) (hs : ∀ i, i < w.heap.size → S' i → S i) : Chg S w w2 :=
  ⟨k.os.trans h.os, k.tape.trans h.tape, k.output.trans h.output, Nat.le_trans h.size k.size,
    fun i hi hn => (k.keep i (Nat.lt_of_lt_of_le hi h.size) (fun h2 => hn (hs i hi h2))).trans (h.keep i hi hn)⟩
theorem of_below {B : Nat} (h : Below B w w') (hB : ∀ k, k < w.heap.size → B ≤ k → S k) : Chg S w w' :=
  ⟨h.os, h.tape, h.output, h.size, fun i hi hn => h.block i (by rcases Nat.lt_or_ge i B with h1 | h1; exact h1; exact absurd (hB i hi h1) hn)⟩
theorem below (h : Chg S w w') {B : Nat} (hB : ∀ k, k < B → k < w.heap.size ∧ ¬ S k) : Below B w w' :=
  ⟨h.os, h.tape, h.output, h.size, fun k hk => h.keep k (hB k hk).1 (hB k hk).2⟩
theorem then_below (h : Chg S w w1) (k : Below w1.heap.size w1 w2) : Chg S w w2 :=
  h.trans (of_below k (S := fun _ => False) (fun i h1 h2 => by omega)) (fun _ _ h => h.elim)
theorem then_drawn (h : Chg S w w1) (k : Drawn0 w1 w2) : Chg S w w2 := h.then_below k.below
theorem drew (h : Chg S w w1) : Chg S w w1.drew := h.then_drawn ((Drawn0.refl w1).step 1)
theorem drewN (h : Chg S w w1) (n : Nat) : Chg S w (w1.drewN n) := h.then_drawn ((Drawn0.refl w1).step n)
theorem alloc (h : Chg S w w1) (o : Obj) : Chg S w (w1.alloc o) := h.then_below (below_alloc (Below.refl _ _) o)
theorem grown {row : Option Nat} (h : Chg S w w1) (hg : w1.grownBy w2 row) (hr : ∀ k, row = some k → S k ∨ w.heap.size ≤ k) : Chg S w w2 :=
  h.trans (S' := fun k => row = some k) ⟨hg.os, hg.tape, hg.output, hg.size, fun k hk hn => hg.block k hk (fun he => hn he.symm)⟩
    (fun i hi h2 => (hr i h2).elim id (fun h3 => by omega))
theorem setCell (h : Chg S w w1) {p : Addr} (hp : S p.block ∨ w.heap.size ≤ p.block) (u : Value) : Chg S w (w1.setCell p u) :=
  h.trans (S' := fun k => k = p.block) ⟨rfl, rfl, rfl, by simp [World.setCell], fun k _ hn => Below.heap_setCell _ _ _ _ hn⟩
    (fun i hi h2 => hp.elim (fun h3 => h2 ▸ h3) (fun h3 => by omega))
theorem kept (h : Chg S w w') : w.heap.size ≤ w'.heap.size ∧ ∀ i, i < w.heap.size → ¬ S i → w'.heap[i]? = w.heap[i]? := ⟨h.size, h.keep⟩
theorem below_of {w0 : World} (hb : Below w0.heap.size w0 w) (h : Chg S w w') (hS : ∀ k, S k → w0.heap.size ≤ k) : Below w0.heap.size w0 w' :=
  hb.trans (h.below (fun k hk => ⟨Nat.lt_of_lt_of_le hk hb.size, fun h2 => by have := hS k h2; omega⟩))
theorem heap (h : Chg S w w') {g : Nat} {o : Obj} (hb : w.heap[g]? = some o) (hne : ¬ S g) : w'.heap[g]? = some o := (h.keep g (blk_lt hb) hne).trans hb
end Chg
def Ft (P : World → Prop) (W : World) (ok : Nat → Prop) : Prop := ∀ W' : World, (∀ k, ok k → k < W.heap.size → W'.heap[k]? = W.heap[k]?) → P W'
namespace Ft
variable {P Q : World → Prop} {W W1 : World} {ok ok' S : Nat → Prop}
theorem hlt {k : Nat} (h : W1.heap[k]? = W.heap[k]?) (hlt : k < W.heap.size) : k < W1.heap.size := by
  rw [Array.getElem?_eq_getElem hlt] at h
  exact (Array.getElem?_eq_some_iff.1 h).1
theorem now (h : Ft P W ok) : P W := h W (fun _ _ _ => rfl)
theorem mono (h : Ft P W ok) (hok : ∀ k, k < W.heap.size → ok k → ok' k) : Ft P W ok' := fun W' hW => h W' (fun k hk hlt => hW k (hok k hlt hk) hlt)
theorem bound (h : Ft P W ok) : Ft P W (fun k => ok k ∧ k < W.heap.size) := h.mono fun _ hlt hk => ⟨hk, hlt⟩
theorem step (h : Ft P W ok) (hm : ∀ k, ok k → k < W.heap.size → W1.heap[k]? = W.heap[k]?) : Ft P W1 (fun k => ok k ∧ k < W.heap.size) := fun W' hW => h W' (fun k hk hlt => (hW k ⟨hk, hlt⟩ (hlt |> Ft.hlt (hm k hk hlt))).trans (hm k hk hlt))
theorem and (h : Ft P W ok) (k : Ft Q W ok') : Ft (fun w => P w ∧ Q w) W (fun i => ok i ∨ ok' i) := fun W' hW => ⟨h W' (fun i hi => hW i (.inl hi)), k W' (fun i hi => hW i (.inr hi))⟩
end Ft
section
variable {α : Type} {d : Kd α} {e base n c : Nat} {ok S : Nat → Prop} {w w0 W W1 : World} {v : Value} {A : Option Addr} {xs : List α}
end
theorem rdint {w : World} {k : IntKind} {A : Option Addr} {n : Nat} {xs : List Int} (h : (Kd.int k).C w A n xs) : ReadsInt w k A n xs := Kd.reads_of_C (d := (0 : Int)) (h1 := fun _ => rfl) h
theorem below_size {w W : World} (h : Below w.heap.size w W) : w.heap.size ≤ W.heap.size := h.size
end Go.Proofs.YthffpkdadffinaaDoor.Hp
namespace Go.Proofs.YthffpkdadffinaaDoor.Va
set_option linter.unusedVariables false
set_option linter.unusedSimpArgs false
open Go.RowKit Go.Proofs.YthffpkdadffinaaDoorW.PrintWords Go.Proofs.YthffpkdadffinaaDoor.Hp
def clsT : List (Int × Int × Int) := [(768, 788, 230), (789, 789, 232), (790, 793, 220), (794, 794, 232), (795, 795, 216), (796, 800, 220), (801, 802, 202), (803, 806, 220), (807, 808, 202), (809, 819, 220), (820, 824, 1), (825, 828, 220), (829, 836, 230), (837, 837, 240), (838, 838, 230), (839, 841, 220), (842, 844, 230), (845, 846, 220), (848, 850, 230), (851, 854, 220), (855, 855, 230), (8400, 8401, 230), (12441, 12442, 8)]
def prsT : List (Int × Int × Int) := [(469, 220, 772), (470, 252, 772), (832, 768, 0), (833, 769, 0), (835, 787, 0), (836, 776, 769), (902, 913, 769), (912, 970, 769), (940, 945, 769), (943, 953, 769), (970, 953, 776), (972, 959, 769), (7691, 100, 775), (7693, 100, 803), (7777, 115, 775), (7779, 115, 803), (7785, 7779, 775), (7841, 97, 803), (7844, 194, 769), (7845, 226, 769), (7863, 7841, 774), (7865, 101, 803), (7879, 7865, 770), (8049, 940, 0), (8115, 945, 837), (8486, 937, 0), (8490, 75, 0), (8491, 197, 0), (8800, 61, 824), (12364, 12363, 12441), (12497, 12495, 12442)]
def mksT : List Int := [768, 769, 770, 771, 772, 774, 775, 776, 778, 779, 780, 807, 808]
def cells3 (l : List (Int × Int × Int)) : List Value := l.flatMap fun p => [.int .i32 p.1, .int .i32 p.2.1, .int .i32 p.2.2]
def G (W : World) : Prop := W.rangeAt 1 0 (cells3 clsT) ∧ W.rangeAt 0 0 (cells3 prsT) ∧ W.rangeAt 2 0 (nums .i32 mksT)
theorem range_below {w W : World} {b o : Nat} {cs : List Value} (h : w.rangeAt b o cs) (hb : Below w.heap.size w W) : W.rangeAt b o cs := fun j v hv => (hb.cell (World.block_lt_of_cell? w _ (h j v hv))).trans (h j v hv)
theorem G.below {w W : World} (h : G w) (hb : Below w.heap.size w W) : G W := ⟨range_below h.1 hb, range_below h.2.1 hb, range_below h.2.2 hb⟩
def clsF (r : Int) : List (Int × Int × Int) → Int
  | [] => 0
  | p :: t => if p.1 ≤ r ∧ r ≤ p.2.1 then p.2.2 else clsF r t
def cls (r : Int) : Int := clsF r clsT
theorem infoC : (Tryd.prog.info? 113).map (·.size) = some (cells3 clsT).length := by kernel_rfl
theorem ix0 : ∀ W : World, (Instr.index 113 (.agg (cells3 clsT).toArray) (.int .i64 0)).run Tryd.prog W = .ok (.agg #[.int .i32 (clsT.getD 0 (0, 0, 0)).1, .int .i32 (clsT.getD 0 (0, 0, 0)).2.1, .int .i32 (clsT.getD 0 (0, 0, 0)).2.2]) W := fun _ => by kernel_rfl
theorem ix1 : ∀ W : World, (Instr.index 113 (.agg (cells3 clsT).toArray) (.int .i64 1)).run Tryd.prog W = .ok (.agg #[.int .i32 (clsT.getD 1 (0, 0, 0)).1, .int .i32 (clsT.getD 1 (0, 0, 0)).2.1, .int .i32 (clsT.getD 1 (0, 0, 0)).2.2]) W := fun _ => by kernel_rfl
theorem ix2 : ∀ W : World, (Instr.index 113 (.agg (cells3 clsT).toArray) (.int .i64 2)).run Tryd.prog W = .ok (.agg #[.int .i32 (clsT.getD 2 (0, 0, 0)).1, .int .i32 (clsT.getD 2 (0, 0, 0)).2.1, .int .i32 (clsT.getD 2 (0, 0, 0)).2.2]) W := fun _ => by kernel_rfl
theorem ix3 : ∀ W : World, (Instr.index 113 (.agg (cells3 clsT).toArray) (.int .i64 3)).run Tryd.prog W = .ok (.agg #[.int .i32 (clsT.getD 3 (0, 0, 0)).1, .int .i32 (clsT.getD 3 (0, 0, 0)).2.1, .int .i32 (clsT.getD 3 (0, 0, 0)).2.2]) W := fun _ => by kernel_rfl
theorem ix4 : ∀ W : World, (Instr.index 113 (.agg (cells3 clsT).toArray) (.int .i64 4)).run Tryd.prog W = .ok (.agg #[.int .i32 (clsT.getD 4 (0, 0, 0)).1, .int .i32 (clsT.getD 4 (0, 0, 0)).2.1, .int .i32 (clsT.getD 4 (0, 0, 0)).2.2]) W := fun _ => by kernel_rfl
theorem ix5 : ∀ W : World, (Instr.index 113 (.agg (cells3 clsT).toArray) (.int .i64 5)).run Tryd.prog W = .ok (.agg #[.int .i32 (clsT.getD 5 (0, 0, 0)).1, .int .i32 (clsT.getD 5 (0, 0, 0)).2.1, .int .i32 (clsT.getD 5 (0, 0, 0)).2.2]) W := fun _ => by kernel_rfl
theorem ix6 : ∀ W : World, (Instr.index 113 (.agg (cells3 clsT).toArray) (.int .i64 6)).run Tryd.prog W = .ok (.agg #[.int .i32 (clsT.getD 6 (0, 0, 0)).1, .int .i32 (clsT.getD 6 (0, 0, 0)).2.1, .int .i32 (clsT.getD 6 (0, 0, 0)).2.2]) W := fun _ => by kernel_rfl
theorem ix7 : ∀ W : World, (Instr.index 113 (.agg (cells3 clsT).toArray) (.int .i64 7)).run Tryd.prog W = .ok (.agg #[.int .i32 (clsT.getD 7 (0, 0, 0)).1, .int .i32 (clsT.getD 7 (0, 0, 0)).2.1, .int .i32 (clsT.getD 7 (0, 0, 0)).2.2]) W := fun _ => by kernel_rfl
theorem ix8 : ∀ W : World, (Instr.index 113 (.agg (cells3 clsT).toArray) (.int .i64 8)).run Tryd.prog W = .ok (.agg #[.int .i32 (clsT.getD 8 (0, 0, 0)).1, .int .i32 (clsT.getD 8 (0, 0, 0)).2.1, .int .i32 (clsT.getD 8 (0, 0, 0)).2.2]) W := fun _ => by kernel_rfl
theorem ix9 : ∀ W : World, (Instr.index 113 (.agg (cells3 clsT).toArray) (.int .i64 9)).run Tryd.prog W = .ok (.agg #[.int .i32 (clsT.getD 9 (0, 0, 0)).1, .int .i32 (clsT.getD 9 (0, 0, 0)).2.1, .int .i32 (clsT.getD 9 (0, 0, 0)).2.2]) W := fun _ => by kernel_rfl
theorem ix10 : ∀ W : World, (Instr.index 113 (.agg (cells3 clsT).toArray) (.int .i64 10)).run Tryd.prog W = .ok (.agg #[.int .i32 (clsT.getD 10 (0, 0, 0)).1, .int .i32 (clsT.getD 10 (0, 0, 0)).2.1, .int .i32 (clsT.getD 10 (0, 0, 0)).2.2]) W := fun _ => by kernel_rfl
theorem ix11 : ∀ W : World, (Instr.index 113 (.agg (cells3 clsT).toArray) (.int .i64 11)).run Tryd.prog W = .ok (.agg #[.int .i32 (clsT.getD 11 (0, 0, 0)).1, .int .i32 (clsT.getD 11 (0, 0, 0)).2.1, .int .i32 (clsT.getD 11 (0, 0, 0)).2.2]) W := fun _ => by kernel_rfl
theorem ix12 : ∀ W : World, (Instr.index 113 (.agg (cells3 clsT).toArray) (.int .i64 12)).run Tryd.prog W = .ok (.agg #[.int .i32 (clsT.getD 12 (0, 0, 0)).1, .int .i32 (clsT.getD 12 (0, 0, 0)).2.1, .int .i32 (clsT.getD 12 (0, 0, 0)).2.2]) W := fun _ => by kernel_rfl
theorem ix13 : ∀ W : World, (Instr.index 113 (.agg (cells3 clsT).toArray) (.int .i64 13)).run Tryd.prog W = .ok (.agg #[.int .i32 (clsT.getD 13 (0, 0, 0)).1, .int .i32 (clsT.getD 13 (0, 0, 0)).2.1, .int .i32 (clsT.getD 13 (0, 0, 0)).2.2]) W := fun _ => by kernel_rfl
theorem ix14 : ∀ W : World, (Instr.index 113 (.agg (cells3 clsT).toArray) (.int .i64 14)).run Tryd.prog W = .ok (.agg #[.int .i32 (clsT.getD 14 (0, 0, 0)).1, .int .i32 (clsT.getD 14 (0, 0, 0)).2.1, .int .i32 (clsT.getD 14 (0, 0, 0)).2.2]) W := fun _ => by kernel_rfl
theorem ix15 : ∀ W : World, (Instr.index 113 (.agg (cells3 clsT).toArray) (.int .i64 15)).run Tryd.prog W = .ok (.agg #[.int .i32 (clsT.getD 15 (0, 0, 0)).1, .int .i32 (clsT.getD 15 (0, 0, 0)).2.1, .int .i32 (clsT.getD 15 (0, 0, 0)).2.2]) W := fun _ => by kernel_rfl
theorem ix16 : ∀ W : World, (Instr.index 113 (.agg (cells3 clsT).toArray) (.int .i64 16)).run Tryd.prog W = .ok (.agg #[.int .i32 (clsT.getD 16 (0, 0, 0)).1, .int .i32 (clsT.getD 16 (0, 0, 0)).2.1, .int .i32 (clsT.getD 16 (0, 0, 0)).2.2]) W := fun _ => by kernel_rfl
theorem ix17 : ∀ W : World, (Instr.index 113 (.agg (cells3 clsT).toArray) (.int .i64 17)).run Tryd.prog W = .ok (.agg #[.int .i32 (clsT.getD 17 (0, 0, 0)).1, .int .i32 (clsT.getD 17 (0, 0, 0)).2.1, .int .i32 (clsT.getD 17 (0, 0, 0)).2.2]) W := fun _ => by kernel_rfl
theorem ix18 : ∀ W : World, (Instr.index 113 (.agg (cells3 clsT).toArray) (.int .i64 18)).run Tryd.prog W = .ok (.agg #[.int .i32 (clsT.getD 18 (0, 0, 0)).1, .int .i32 (clsT.getD 18 (0, 0, 0)).2.1, .int .i32 (clsT.getD 18 (0, 0, 0)).2.2]) W := fun _ => by kernel_rfl
theorem ix19 : ∀ W : World, (Instr.index 113 (.agg (cells3 clsT).toArray) (.int .i64 19)).run Tryd.prog W = .ok (.agg #[.int .i32 (clsT.getD 19 (0, 0, 0)).1, .int .i32 (clsT.getD 19 (0, 0, 0)).2.1, .int .i32 (clsT.getD 19 (0, 0, 0)).2.2]) W := fun _ => by kernel_rfl
theorem ix20 : ∀ W : World, (Instr.index 113 (.agg (cells3 clsT).toArray) (.int .i64 20)).run Tryd.prog W = .ok (.agg #[.int .i32 (clsT.getD 20 (0, 0, 0)).1, .int .i32 (clsT.getD 20 (0, 0, 0)).2.1, .int .i32 (clsT.getD 20 (0, 0, 0)).2.2]) W := fun _ => by kernel_rfl
theorem ix21 : ∀ W : World, (Instr.index 113 (.agg (cells3 clsT).toArray) (.int .i64 21)).run Tryd.prog W = .ok (.agg #[.int .i32 (clsT.getD 21 (0, 0, 0)).1, .int .i32 (clsT.getD 21 (0, 0, 0)).2.1, .int .i32 (clsT.getD 21 (0, 0, 0)).2.2]) W := fun _ => by kernel_rfl
theorem ix22 : ∀ W : World, (Instr.index 113 (.agg (cells3 clsT).toArray) (.int .i64 22)).run Tryd.prog W = .ok (.agg #[.int .i32 (clsT.getD 22 (0, 0, 0)).1, .int .i32 (clsT.getD 22 (0, 0, 0)).2.1, .int .i32 (clsT.getD 22 (0, 0, 0)).2.2]) W := fun _ => by kernel_rfl
theorem idxC (i : Nat) (hi : i < 23) : ∀ W : World, (Instr.index 113 (.agg (cells3 clsT).toArray) (.int .i64 (i : Int))).run Tryd.prog W = .ok (.agg #[.int .i32 (clsT.getD i (0, 0, 0)).1, .int .i32 (clsT.getD i (0, 0, 0)).2.1, .int .i32 (clsT.getD i (0, 0, 0)).2.2]) W := by
  intro W
  match i, hi with
  | 0, _ => exact ix0 W
  | 1, _ => exact ix1 W
  | 2, _ => exact ix2 W
  | 3, _ => exact ix3 W
  | 4, _ => exact ix4 W
  | 5, _ => exact ix5 W
  | 6, _ => exact ix6 W
  | 7, _ => exact ix7 W
  | 8, _ => exact ix8 W
  | 9, _ => exact ix9 W
  | 10, _ => exact ix10 W
  | 11, _ => exact ix11 W
  | 12, _ => exact ix12 W
  | 13, _ => exact ix13 W
  | 14, _ => exact ix14 W
  | 15, _ => exact ix15 W
  | 16, _ => exact ix16 W
  | 17, _ => exact ix17 W
  | 18, _ => exact ix18 W
  | 19, _ => exact ix19 W
  | 20, _ => exact ix20 W
  | 21, _ => exact ix21 W
  | 22, _ => exact ix22 W
  | n + 23, h => exact absurd h (by omega)
theorem cls_small : ∀ p, p ∈ clsT → 0 ≤ p.2.2 ∧ p.2.2 ≤ 240 := by decide
set_option maxRecDepth 100000 in
set_option maxHeartbeats 1000000 in
theorem ClassP (w : World) (hG : G w) (r : Int) : Calls Tryd.prog 55 #[.int .i32 r] w fun e w' => e = .returned (.int .i64 (cls r)) ∧ Below w.heap.size w w' := by
  obtain ⟨tl, htl⟩ : ∃ tl, tl = cells3 clsT := ⟨_, rfl⟩
  have HT := Aside0.mk (show w.rangeAt 1 0 tl by rw [htl]; exact hG.1)
  have HI := Aside0.mk (show (Tryd.prog.info? 113).map (·.size) = some tl.length by rw [htl]; exact infoC)
  have HX := Aside0.mk (show ∀ i : Nat, i < 23 → ∀ W : World, (Instr.index 113 (.agg tl.toArray) (.int .i64 (i : Int))).run Tryd.prog W = .ok (.agg #[.int .i32 (clsT.getD i (0, 0, 0)).1, .int .i32 (clsT.getD i (0, 0, 0)).2.1, .int .i32 (clsT.getD i (0, 0, 0)).2.2]) W by rw [htl]; exact idxC)
  clear hG htl
  have hu43 := Tryd.underlying110
  go_enter Tryd.func55, Tryd.ntmps55
  go_wp2_with (refine wpList_load_mid rfl 113 (.global 1) rfl 1 0 rfl tl _ HT.out Tryd.underlying113 rfl HI.out ?_)
  go_loopw [6] (fun iv wr => ∃ i : Nat, i ≤ 23 ∧ iv = .int .i64 i ∧ Aside0 (cls r = clsF r (clsT.drop i)) ∧ Aside0 (Below w.heap.size w wr)) (fun iv _ => 23 - (intOf iv).toNat)
  case atStart => exact ⟨0, Nat.zero_le _, rfl, ⟨rfl⟩, ⟨Below.refl _ _⟩⟩
  case round =>
    obtain ⟨i, hi, rfl, HE, HB⟩ := hrel
    by_cases hlt : i < 23
    · have hd : decide ((i : Int) < 23) = true := decide_eq_true (by omega)
      have hix := HX.out i hlt
      have he := HE.out
      have hmem : clsT.getD i (0, 0, 0) ∈ clsT := by
        have h1 : i < clsT.length := hlt
        rw [List.getD_eq_getElem?_getD, List.getElem?_eq_getElem h1]
        exact List.getElem_mem h1
      have hsm := cls_small _ hmem
      have hdr : clsT.drop i = clsT.getD i (0, 0, 0) :: clsT.drop (i + 1) := by
        have h1 : i < clsT.length := hlt
        rw [List.drop_eq_getElem_cons h1, List.getD_eq_getElem?_getD, List.getElem?_eq_getElem h1]
        rfl
      rw [hdr, clsF] at he
      obtain ⟨⟨a, b, c⟩, hp⟩ : ∃ p, p = clsT.getD i (0, 0, 0) := ⟨_, rfl⟩
      rw [← hp] at hix he hsm
      simp only at hix he hsm
      clear hp hmem hdr
      have NB := Aside0.mk (show Below w.heap.size w (wr.alloc (.cells #[.int .i32 a, .int .i32 b, .int .i32 c] 110)) from below_then HB.out HB.out.size (below_alloc (Below.refl _ _) _))
      by_cases ha : a ≤ r
      · have ha1 : decide (a ≤ r) = true := decide_eq_true ha
        by_cases hb : r ≤ b
        · have hb1 : decide (r ≤ b) = true := decide_eq_true hb
          rw [if_pos ⟨ha, hb⟩] at he
          have HE1 := Aside0.mk he
          have hw3 : wrap64 c = c := by unfold wrap64; omega
          clear he
          go_wp2
          go_ret
          exact ⟨by rw [HE1.out]; rfl, NB.out⟩
        · have hb1 : decide (r ≤ b) = false := decide_eq_false hb
          rw [if_neg (fun h => hb h.2)] at he
          have HE1 := Aside0.mk he
          clear he
          go_wp2
          go_roundw
          case rel => exact ⟨i + 1, by omega, by go_num, HE1, NB⟩
          case measure => simp [intOf]; omega
      · have ha1 : decide (a ≤ r) = false := decide_eq_false ha
        rw [if_neg (fun h => ha h.1)] at he
        have HE1 := Aside0.mk he
        clear he
        go_wp2
        go_roundw
        case rel => exact ⟨i + 1, by omega, by go_num, HE1, NB⟩
        case measure => simp [intOf]; omega
    · have hd : decide ((i : Int) < 23) = false := decide_eq_false (by omega)
      obtain rfl : i = 23 := by omega
      have he := HE.out
      have HE1 := Aside0.mk (show cls r = 0 from he)
      clear he
      go_wp2
      go_ret
      exact ⟨by rw [HE1.out]; rfl, HB.out⟩
end Go.Proofs.YthffpkdadffinaaDoor.Va
namespace Go.Proofs.YthffpkdadffinaaDoor.X
set_option linter.unusedVariables false
set_option linter.unusedSimpArgs false
open Go.RowKit Go.Proofs.YthffpkdadffinaaDoorW.PrintWords
def ucd_Class.f (a0 : Int) : Option Int := some (Va.cls a0)
theorem ucd_Class.calls (a0 : Int) (r : Int) (w : World) (h : ucd_Class.f a0 = some r) (hG0 : Va.G w) : Calls Tryd.prog 55 #[.int .i32 a0] w fun e w' => e = .returned (.int .i64 r) ∧ Below w.heap.size w w' := by
  obtain rfl := Option.some.inj h
  exact Va.ClassP w hG0 a0
end Go.Proofs.YthffpkdadffinaaDoor.X
namespace Go.Proofs.YthffpkdadffinaaDoor.Vb
set_option linter.unusedVariables false
set_option linter.unusedSimpArgs false
open Go.RowKit Go.Proofs.YthffpkdadffinaaDoorW.PrintWords Go.Proofs.YthffpkdadffinaaDoor.Hp Go.Proofs.YthffpkdadffinaaDoor.Va Go.Proofs.YthffpkdadffinaaDoor.X
def inR (r : Int) (x : S46) : Bool := decide (x.f0 ≤ r) && decide (r ≤ x.f1)
set_option maxRecDepth 100000 in
theorem CloP (w : World) (g : Nat) (r lo hi : Int) (hb : w.heap[g]? = some (.cells #[.int .i32 r] 21 (0, 0))) :
    Calls Tryd.prog 68 #[.agg #[.int .i32 lo, .int .i32 hi], .pointer (some ⟨g, 0, none⟩)] w fun e w' => e = .returned (.bool (decide (lo ≤ r) && decide (r ≤ hi))) ∧ Below w.heap.size w w' := by
  have hu41 := Tryd.underlying46
  have hgl := blk_lt hb
  have hc0 := blk_cell hb 0
  have NB := Aside0.mk (below_alloc (Below.refl w.heap.size w) (.cells #[.int .i32 lo, .int .i32 hi] 46))
  clear hb
  by_cases h1 : lo ≤ r
  · have d1 : decide (lo ≤ r) = true := decide_eq_true h1
    by_cases h2 : r ≤ hi
    · have d2 : decide (r ≤ hi) = true := decide_eq_true h2
      go_enter Tryd.func68, Tryd.ntmps68
      go_wp2
      go_ret
      exact ⟨by first | rfl | (rw [d1, d2]; rfl), NB.out⟩
    · have d2 : decide (r ≤ hi) = false := decide_eq_false h2
      go_enter Tryd.func68, Tryd.ntmps68
      go_wp2
      go_ret
      exact ⟨by first | rfl | (rw [d1, d2]; rfl), NB.out⟩
  · have d1 : decide (lo ≤ r) = false := decide_eq_false h1
    go_enter Tryd.func68, Tryd.ntmps68
    go_wp2
    go_ret
    exact ⟨by first | rfl | (rw [d1]; rfl), NB.out⟩
theorem ranges_at {w : World} {A : Option Addr} {n : Nat} {l : List S46} (h : Kd.C k46 w A n l) (j : Nat) (hj : j < n) : ∃ ad, A = some ad ∧ w.cell? (ad.add (j * 2)) = some (.int .i32 (rd_T46 l j).f0) ∧ w.cell? ⟨(ad.add (j * 2)).block, (ad.add (j * 2)).off + 1, none⟩ = some (.int .i32 (rd_T46 l j).f1) := by
  have := at_T46 h (j : Int) (by omega) (by omega)
  rw [Int.toNat_natCast] at this
  exact this
set_option maxRecDepth 100000 in
set_option maxHeartbeats 1000000 in
theorem IdxP (w : World) (A : Option Addr) (n c : Nat) (l : List S46) (hC : Kd.C k46 w A n l) (hn : n = l.length) (hn5 : n ≤ 1000000) (g : Nat) (r : Int) (hb : w.heap[g]? = some (.cells #[.int .i32 r] 21 (0, 0))) :
    Calls Tryd.prog 89 #[.slice A n c, .func (.func 68) #[] #[.pointer (some ⟨g, 0, none⟩)]] w fun e w' => ∃ z : Int, e = .returned (.int .i64 z) ∧ decide (0 ≤ z) = l.any (inR r) ∧ Below w.heap.size w w' := by
  have hu41 := Tryd.underlying46
  have HC := Aside0.mk hC
  have HN := Aside0.mk hn
  have HB := Aside0.mk hb
  clear hC hn hb
  go_enter Tryd.func89, Tryd.ntmps89
  go_wp2
  go_loopw [8] (fun iv wr => ∃ i : Nat, i ≤ n ∧ iv = .int .i64 i ∧ Aside0 (l.any (inR r) = (l.drop i).any (inR r)) ∧ Aside0 (Below w.heap.size w wr)) (fun iv _ => n - (intOf iv).toNat)
  case atStart => exact ⟨0, Nat.zero_le _, rfl, ⟨rfl⟩, ⟨Below.refl _ _⟩⟩
  case round =>
    obtain ⟨i, hi, rfl, HE, HW⟩ := hrel
    by_cases hlt : i < n
    · have hd : decide ((i : Int) < (n : Int)) = true := decide_eq_true (by omega)
      obtain ⟨ad, rfl, x0, x1⟩ := ranges_at HC.out i hlt
      have y0 := (HW.out.cell (World.block_lt_of_cell? w _ x0)).trans x0
      have y1 := (HW.out.cell (World.block_lt_of_cell? w _ x1)).trans x1
      have hdr : l.drop i = rd_T46 l i :: l.drop (i + 1) := by
        have h1 : i < l.length := by rw [← HN.out]; exact hlt
        rw [List.drop_eq_getElem_cons h1]
        unfold rd_T46
        simp [List.getElem?_eq_getElem h1]
      have he := HE.out
      rw [hdr, List.any_cons] at he
      obtain ⟨⟨lo, hi'⟩, hp⟩ : ∃ p, p = rd_T46 l i := ⟨_, rfl⟩
      rw [← hp] at y0 y1 he
      simp only at y0 y1
      clear x0 x1 hdr hp
      have hin : inR r ⟨lo, hi'⟩ = (decide (lo ≤ r) && decide (r ≤ hi')) := rfl
      rw [hin] at he
      have HB2 := Aside0.mk ((HW.out.block g (blk_lt HB.out)).trans HB.out)
      cases hbb : (decide (lo ≤ r) && decide (r ≤ hi')) with
      | true =>
        rw [hbb, Bool.true_or] at he
        have HE1 := Aside0.mk he
        have HBB := Aside0.mk hbb
        clear he hbb hin HE
        go_wp2_with (first | (go_at_call 68; go_must (refine (CloP wr g r lo hi' HB2.out).mono ?_; rintro e w3 ⟨rfl, p1⟩; rw [HBB.out]; have B3 := Aside0.mk (below_then HW.out HW.out.size p1); clear p1)))
        go_ret
        exact ⟨_, rfl, by rw [HE1.out]; simp, B3.out⟩
      | false =>
        rw [hbb, Bool.false_or] at he
        have HE1 := Aside0.mk he
        have HBB := Aside0.mk hbb
        clear he hbb hin HE
        go_wp2_with (first | (go_at_call 68; go_must (refine (CloP wr g r lo hi' HB2.out).mono ?_; rintro e w3 ⟨rfl, p1⟩; rw [HBB.out]; have B3 := Aside0.mk (below_then HW.out HW.out.size p1); clear p1)))
        go_roundw
        case rel => exact ⟨i + 1, by omega, by go_num, HE1, B3⟩
        case measure => simp [intOf]; omega
    · have hd : decide ((i : Int) < (n : Int)) = false := decide_eq_false (by omega)
      obtain rfl : i = n := by omega
      have he := HE.out
      rw [HN.out, List.drop_of_length_le (Nat.le_refl _)] at he
      have HE1 := Aside0.mk he
      clear he
      go_wp2
      go_ret
      exact ⟨-1, rfl, by rw [HE1.out]; rfl, HW.out⟩
set_option maxRecDepth 100000 in
theorem HasP (w : World) (A : Option Addr) (n c : Nat) (l : List S46) (hC : Kd.C k46 w A n l) (hn : n = l.length) (hn5 : n ≤ 1000000) (g : Nat) (r : Int) (hb : w.heap[g]? = some (.cells #[.int .i32 r] 21 (0, 0))) :
    Calls Tryd.prog 67 #[.slice A n c, .func (.func 68) #[] #[.pointer (some ⟨g, 0, none⟩)]] w fun e w' => e = .returned (.bool (l.any (inR r))) ∧ Below w.heap.size w w' := by
  have HC := Aside0.mk hC
  have HN := Aside0.mk hn
  have HB := Aside0.mk hb
  clear hC hn hb
  go_enter Tryd.func67, Tryd.ntmps67
  go_wp2_with (first | (go_at_call 89; go_must (refine (IdxP w A n c l HC.out HN.out hn5 g r HB.out).mono ?_; rintro e w3 ⟨z, rfl, p1, p2⟩; have P1 := Aside0.mk p1; have B3 := Aside0.mk p2; clear p1 p2)))
  go_ret
  exact ⟨by rw [← P1.out]; rfl, B3.out⟩
def lst (k : Int) : List S46 := (ucd_listed.f k).getD []
theorem lst_some (k : Nat) (h : 1 ≤ k ∧ k ≤ 6) : ucd_listed.f k = some (lst k) := by
  have : k = 1 ∨ k = 2 ∨ k = 3 ∨ k = 4 ∨ k = 5 ∨ k = 6 := by omega
  rcases this with rfl | rfl | rfl | rfl | rfl | rfl <;> rfl
theorem lst_len (k : Nat) (h : 1 ≤ k ∧ k ≤ 6) : (lst k).length ≤ 100 := by
  have : k = 1 ∨ k = 2 ∨ k = 3 ∨ k = 4 ∨ k = 5 ∨ k = 6 := by omega
  rcases this with rfl | rfl | rfl | rfl | rfl | rfl <;> decide
def catF (r : Int) : Nat → Nat → Int
  | 0, _ => 7
  | m + 1, k => if (lst k).any (inR r) = true then k else catF r m (k + 1)
def cat (r : Int) : Int := catF r 6 1
set_option maxRecDepth 100000 in
set_option maxHeartbeats 1000000 in
theorem CatP (w : World) (r : Int) : Calls Tryd.prog 25 #[.int .i32 r] w fun e w' => e = .returned (.int .i64 (cat r)) ∧ Below w.heap.size w w' := by
  have NB := Aside0.mk (below_alloc (Below.refl w.heap.size w) (.cells #[.int .i32 r] 21))
  have NK := Aside0.mk (heap_alloc_new w (.cells #[.int .i32 r] 21))
  go_enter Tryd.func25, Tryd.ntmps25
  go_wp2
  go_loopw [3] (fun kv wr => ∃ k : Nat, 1 ≤ k ∧ k ≤ 7 ∧ kv = .int .i64 k ∧ Aside0 (cat r = catF r (7 - k) k) ∧ Aside0 (Below w.heap.size w wr) ∧ Aside0 (wr.heap[w.heap.size]? = some (.cells #[.int .i32 r] 21 (0, 0)))) (fun kv _ => 7 - (intOf kv).toNat)
  case atStart => exact ⟨1, by omega, by omega, rfl, ⟨rfl⟩, NB, NK⟩
  case round =>
    obtain ⟨k, h1, h7, rfl, HE, HW, HK⟩ := hrel
    by_cases hlt : k < 7
    · have hd : decide ((k : Int) < 7) = true := decide_eq_true (by omega)
      have HL := Aside0.mk (lst_some k ⟨h1, by omega⟩)
      have hll := lst_len k ⟨h1, by omega⟩
      obtain ⟨l, hl⟩ : ∃ l, l = lst k := ⟨_, rfl⟩
      obtain ⟨q, hq⟩ : ∃ q, q = l.length := ⟨_, rfl⟩
      have he := HE.out
      rw [show 7 - k = (6 - k) + 1 by omega, catF] at he
      rw [← hl] at HL hll he
      rw [← hq] at hll
      have HQ := Aside0.mk hq
      clear hl hq
      cases hb : l.any (inR r) with
      | true =>
        rw [hb, if_pos rfl] at he
        have HE1 := Aside0.mk he
        have HBB := Aside0.mk hb
        clear he hb
        go_wp2_with (first | (go_at_call 61; go_must (refine (ucd_listed.calls k l wr HL.out).mono ?_; rintro e w2 ⟨v2, rfl, p1, p2⟩; obtain ⟨A2, c2, rfl, -, p3⟩ := Kd.R_reads p1; rw [← HQ.out] at p3 ⊢; have C2 := Aside0.mk p3; have B2 := Aside0.mk (below_then HW.out HW.out.size p2); have K2 := Aside0.mk ((p2.block _ (blk_lt HK.out)).trans HK.out); clear p1 p2 p3)) | (go_at_call 67; go_must (refine (HasP w2 A2 q c2 l C2.out HQ.out (by omega) w.heap.size r K2.out).mono ?_; rintro e w3 ⟨rfl, p1⟩; rw [HBB.out]; have B3 := Aside0.mk (below_then B2.out B2.out.size p1); clear p1)))
        go_ret
        exact ⟨by rw [HE1.out]; rfl, B3.out⟩
      | false =>
        rw [hb, if_neg (by decide)] at he
        have HE1 := Aside0.mk (show cat r = catF r (7 - (k + 1)) (k + 1) by rw [he]; congr 1; omega)
        have HBB := Aside0.mk hb
        clear he hb
        go_wp2_with (first | (go_at_call 61; go_must (refine (ucd_listed.calls k l wr HL.out).mono ?_; rintro e w2 ⟨v2, rfl, p1, p2⟩; obtain ⟨A2, c2, rfl, -, p3⟩ := Kd.R_reads p1; rw [← HQ.out] at p3 ⊢; have C2 := Aside0.mk p3; have B2 := Aside0.mk (below_then HW.out HW.out.size p2); have K2 := Aside0.mk ((p2.block _ (blk_lt HK.out)).trans HK.out); clear p1 p2 p3)) | (go_at_call 67; go_must (refine (HasP w2 A2 q c2 l C2.out HQ.out (by omega) w.heap.size r K2.out).mono ?_; rintro e w3 ⟨rfl, p1⟩; rw [HBB.out]; have B3 := Aside0.mk (below_then B2.out B2.out.size p1); have K3 := Aside0.mk ((p1.block _ (blk_lt K2.out)).trans K2.out); clear p1)))
        go_roundw
        case rel => exact ⟨k + 1, by omega, by omega, by go_num, HE1, B3, K3⟩
        case measure => simp [intOf]; omega
    · have hd : decide ((k : Int) < 7) = false := decide_eq_false (by omega)
      obtain rfl : k = 7 := by omega
      have HE1 := Aside0.mk (show cat r = 7 from HE.out)
      go_wp2
      go_ret
      exact ⟨by rw [HE1.out]; rfl, HW.out⟩
end Go.Proofs.YthffpkdadffinaaDoor.Vb
namespace Go.Proofs.YthffpkdadffinaaDoor.X
set_option linter.unusedVariables false
set_option linter.unusedSimpArgs false
open Go.RowKit Go.Proofs.YthffpkdadffinaaDoorW.PrintWords
def ucd_Category.f (a0 : Int) : Option Int := some (Vb.cat a0)
theorem ucd_Category.calls (a0 : Int) (r : Int) (w : World) (h : ucd_Category.f a0 = some r) : Calls Tryd.prog 25 #[.int .i32 a0] w fun e w' => e = .returned (.int .i64 r) ∧ Below w.heap.size w w' := by
  obtain rfl := Option.some.inj h
  exact Vb.CatP w a0
end Go.Proofs.YthffpkdadffinaaDoor.X
namespace Go.Proofs.YthffpkdadffinaaDoor.Vk0
set_option linter.unusedVariables false
set_option linter.unusedSimpArgs false
open Go.RowKit Go.Proofs.YthffpkdadffinaaDoorW.PrintWords Go.Proofs.YthffpkdadffinaaDoor.X Go.Proofs.YthffpkdadffinaaDoor.Vb
abbrev SR := S46
instance : Inhabited SR := ⟨z46⟩
theorem lst_any (c : Int) : ucd_listed.f c = some (lst c) := by
  unfold lst ucd_listed.f
  repeat' split
  all_goals rfl
def allL : Nat → List SR
  | 0 => []
  | k + 1 => allL k ++ lst ((k + 1 : Nat) : Int)
theorem allL_succ (k : Nat) : allL (k + 1) = allL k ++ lst ((k + 1 : Nat) : Int) := rfl
def insR (x : SR) : List SR → List SR
  | [] => [x]
  | y :: l => if x.f0 < y.f0 then x :: y :: l else y :: insR x l
def srtR : List SR → List SR
  | [] => []
  | x :: l => insR x (srtR l)
theorem insR_perm (x : SR) : ∀ l, (insR x l).Perm (x :: l)
  | [] => List.Perm.refl _
  | y :: l => by
    rw [insR]
    split
    · exact List.Perm.refl _
    · exact ((insR_perm x l).cons y).trans (List.Perm.swap x y l)
theorem srtR_perm : ∀ l, (srtR l).Perm l
  | [] => List.Perm.refl _
  | x :: l => (insR_perm x _).trans ((srtR_perm l).cons x)
def D0 : List SR := allL 6
def D1 : List SR := srtR D0
def rise : List SR → Bool
  | [] => true
  | x :: l => l.all (fun y => decide (x.f0 < y.f0)) && rise l
theorem D1_rise : rise D1 = true := by decide +kernel
theorem D1_len : D1.length = D0.length := (srtR_perm D0).length_eq
theorem D0_len : D0.length ≤ 1000 := by decide +kernel
theorem D1_ok : D1.all (fun x => decide (0 ≤ x.f0 ∧ x.f0 ≤ x.f1 ∧ x.f1 < 1114111)) = true := by decide +kernel
theorem rise_uniq : ∀ (m l : List SR), rise m = true → l.Pairwise (fun x y => x.f0 ≤ y.f0) → l.Perm m → l = m
  | [], l, _, _, h => h.eq_nil
  | b :: m, [], _, _, h => by have := h.length_eq; simp at this
  | b :: m, a :: l, hr, hp, h => by
    rw [rise, Bool.and_eq_true, List.all_eq_true] at hr
    have hp2 := List.pairwise_cons.1 hp
    have e : a = b := by
      have h1 : a ∈ b :: m := h.subset (List.mem_cons_self ..)
      rcases List.mem_cons.1 h1 with e | h1
      · exact e
      · have h3 : b.f0 < a.f0 := of_decide_eq_true (hr.1 a h1)
        have h2 : b ∈ a :: l := h.symm.subset (List.mem_cons_self ..)
        rcases List.mem_cons.1 h2 with e | h2
        · exact e.symm
        · have := hp2.1 b h2
          omega
    subst e
    rw [rise_uniq m l hr.2 hp2.2 (List.Perm.cons_inv h)]
def stepR (p : List SR × Int) (x : SR) : List SR × Int := (if x.f0 > p.2 then p.1 ++ [⟨p.2, x.f0 - 1⟩] else p.1, x.f1 + 1)
def stR (i : Nat) : List SR × Int := (D1.take i).foldl stepR ([], 0)
theorem stR_succ (i : Nat) (h : i < D1.length) : stR (i + 1) = stepR (stR i) D1[i] := by
  unfold stR
  rw [List.take_succ_eq_append_getElem h, List.foldl_append]
  rfl
theorem stR_at : ∀ i : Nat, i ≤ D1.length → 0 ≤ (stR i).2 ∧ (stR i).2 ≤ 1114111 ∧ (stR i).1.length ≤ i
  | 0, _ => by unfold stR; simp
  | i + 1, h => by
    have ih := stR_at i (by omega)
    have hx := of_decide_eq_true (List.all_eq_true.1 D1_ok D1[i] (List.getElem_mem (by omega)))
    rw [stR_succ i (by omega)]
    unfold stepR
    refine ⟨by simp only; omega, by simp only; omega, ?_⟩
    simp only
    split
    · rw [List.length_append, List.length_singleton]; omega
    · omega
def RC : List SR := (stR D1.length).1 ++ [⟨(stR D1.length).2, 1114111⟩]
def rgs (c : Int) : List SR := if c = 7 then RC else lst c
end Go.Proofs.YthffpkdadffinaaDoor.Vk0
namespace Go.Proofs.YthffpkdadffinaaDoor.Vkl
set_option linter.unusedVariables false
set_option linter.unusedSimpArgs false
open Go.Shelf Go.Proofs
def sortR_ren : Go.Shelf.Ren := ⟨fun | 6 => 62 | 15 => 86 | 14 => 85 | 28 => 107 | 29 => 108 | 20 => 99 | 21 => 100 | 22 => 101 | 23 => 102 | 24 => 103 | 25 => 104 | 26 => 105 | 27 => 106 | 46 => 118 | 47 => 119 | 48 => 120 | 49 => 121 | 50 => 122 | 57 => 125 | n => n, fun | 22 => 43 | 24 => 46 | 25 => 92 | 3 => 3 | 39 => 40 | 0 => 0 | 53 => 132 | 55 => 134 | 4 => 4 | 46 => 126 | 45 => 125 | 50 => 86 | 5 => 5 | 9 => 9 | 66 => 139 | 70 => 143 | 76 => 147 | 77 => 148 | n => n, fun | n => n⟩
theorem sortR : Go.Proofs.SlLaysF0.n6 Tryd.prog sortR_ren := {
  mixed := by kernel_rfl
  f6 := ⟨Tryd.f62.name, by decide, Tryd.func62.trans (congrArg some (by kernel_rfl))⟩
  f14 := ⟨Tryd.f85.name, by decide, Tryd.func85.trans (congrArg some (by kernel_rfl))⟩
  f15 := Tryd.func86.trans (congrArg some (by kernel_rfl))
  f20 := ⟨Tryd.f99.name, by decide, Tryd.func99.trans (congrArg some (by kernel_rfl))⟩
  f21 := ⟨Tryd.f100.name, by decide, Tryd.func100.trans (congrArg some (by kernel_rfl))⟩
  f22 := ⟨Tryd.f101.name, by decide, Tryd.func101.trans (congrArg some (by kernel_rfl))⟩
  f23 := ⟨Tryd.f102.name, by decide, Tryd.func102.trans (congrArg some (by kernel_rfl))⟩
  f24 := ⟨Tryd.f103.name, by decide, Tryd.func103.trans (congrArg some (by kernel_rfl))⟩
  f25 := ⟨Tryd.f104.name, by decide, Tryd.func104.trans (congrArg some (by kernel_rfl))⟩
  f26 := ⟨Tryd.f105.name, by decide, Tryd.func105.trans (congrArg some (by kernel_rfl))⟩
  f27 := ⟨Tryd.f106.name, by decide, Tryd.func106.trans (congrArg some (by kernel_rfl))⟩
  f28 := Tryd.func107.trans (congrArg some (by kernel_rfl))
  f29 := Tryd.func108.trans (congrArg some (by kernel_rfl))
  f46 := ⟨Tryd.f118.name, by decide, Tryd.func118.trans (congrArg some (by kernel_rfl))⟩
  f47 := Tryd.func119.trans (congrArg some (by kernel_rfl))
  f48 := Tryd.func120.trans (congrArg some (by kernel_rfl))
  f49 := ⟨Tryd.f121.name, by decide, Tryd.func121.trans (congrArg some (by kernel_rfl))⟩
  f50 := ⟨Tryd.f122.name, by decide, Tryd.func122.trans (congrArg some (by kernel_rfl))⟩
  f57 := ⟨Tryd.f125.name, by decide, Tryd.func125.trans (congrArg some (by kernel_rfl))⟩
  t0 := Tryd.underlying0
  a0 := Tryd.isAgg0
  z0 := Tryd.sizeOf0
  v0 := Tryd.zeroValue0
  t3 := Tryd.underlying3
  a3 := Tryd.isAgg3
  z3 := Tryd.sizeOf3
  v3 := Tryd.zeroValue3
  t4 := Tryd.underlying4
  a4 := Tryd.isAgg4
  z4 := Tryd.sizeOf4
  v4 := Tryd.zeroValue4
  t5 := Tryd.underlying5
  a5 := Tryd.isAgg5
  z5 := Tryd.sizeOf5
  v5 := Tryd.zeroValue5
  t9 := Tryd.underlying9
  a9 := Tryd.isAgg9
  z9 := Tryd.sizeOf9
  v9 := Tryd.zeroValue9
  t22 := Tryd.underlying43
  a22 := Tryd.isAgg43
  z22 := Tryd.sizeOf43
  v22 := Tryd.zeroValue43
  t25 := Tryd.underlying92
  a25 := Tryd.isAgg92
  z25 := Tryd.sizeOf92
  v25 := Tryd.zeroValue92
  t39 := Tryd.underlying40
  a39 := Tryd.isAgg40
  z39 := Tryd.sizeOf40
  v39 := Tryd.zeroValue40
  t45 := Tryd.underlying125
  a45 := Tryd.isAgg125
  z45 := Tryd.sizeOf125
  v45 := Tryd.zeroValue125
  t46 := Tryd.underlying126
  a46 := Tryd.isAgg126
  z46 := Tryd.sizeOf126
  v46 := Tryd.zeroValue126
  t50 := Tryd.underlying86
  a50 := Tryd.isAgg86
  z50 := Tryd.sizeOf86
  v50 := Tryd.zeroValue86
  t53 := Tryd.underlying132
  a53 := Tryd.isAgg132
  z53 := Tryd.sizeOf132
  v53 := Tryd.zeroValue132
  t55 := Tryd.underlying134
  a55 := Tryd.isAgg134
  z55 := Tryd.sizeOf134
  v55 := Tryd.zeroValue134
  t66 := Tryd.underlying139
  a66 := Tryd.isAgg139
  z66 := Tryd.sizeOf139
  v66 := Tryd.zeroValue139
  t70 := Tryd.underlying143
  a70 := Tryd.isAgg143
  z70 := Tryd.sizeOf143
  v70 := Tryd.zeroValue143
  t76 := Tryd.underlying147
  a76 := Tryd.isAgg147
  z76 := Tryd.sizeOf147
  v76 := Tryd.zeroValue147
  t77 := Tryd.underlying148
  a77 := Tryd.isAgg148
  z77 := Tryd.sizeOf148
  v77 := Tryd.zeroValue148 }
end Go.Proofs.YthffpkdadffinaaDoor.Vkl
namespace Go.Proofs.YthffpkdadffinaaDoor.Vks
set_option linter.unusedVariables false
set_option linter.unusedSimpArgs false
open Go.Shelf Go.Lib Go.Sort Go.RowKit Go.Proofs Go.Proofs.YthffpkdadffinaaDoorW.PrintWords Go.Proofs.YthffpkdadffinaaDoor.Hp Go.Proofs.YthffpkdadffinaaDoor.X Go.Proofs.YthffpkdadffinaaDoor.Vk0
open Go.RowKit (Below)
abbrev kR := k46
def encR (x : SR) : List Value := [.int .i32 x.f0, .int .i32 x.f1]
def cfR (x y : SR) : Int := Lib.compareInt x.f0 y.f0
theorem ltR (x y : SR) : ltOf cfR x y = decide (x.f0 < y.f0) := by
  unfold ltOf cfR Lib.compareInt
  by_cases h1 : x.f0 < y.f0
  · simp [h1]
  · by_cases h2 : y.f0 < x.f0 <;> simp [h1, h2]
theorem swoR : SWO (ltOf cfR) where
  irrefl x := by rw [ltR]; simp
  trans x y z h1 h2 := by rw [ltR] at *; simp at *; omega
  ntrans x y z h1 h2 := by rw [ltR] at *; simp at *; omega
theorem CmpR (x y : Int) (W : World) : Calls Tryd.prog 64 #[.int .i32 x, .int .i32 y] W fun e w' => e = .returned (.int .i64 (Lib.compareInt x y)) ∧ w' = W := by
  unfold Lib.compareInt
  go_enter Tryd.func64, Tryd.ntmps64
  go_wp2
  all_goals (go_ret; exact ⟨rfl, rfl⟩)
set_option maxHeartbeats 1000000 in
theorem cloR (x y : SR) (W : World) : Calls Tryd.prog 63 #[.agg #[.int .i32 x.f0, .int .i32 x.f1], .agg #[.int .i32 y.f0, .int .i32 y.f1]] W fun e w' => e = .returned (.int .i64 (cfR x y)) ∧ ∃ q os', w' = grow (W.drewN q) os' := by
  have hcon := fun W' => CmpR x.f0 y.f0 W'
  unfold cfR
  generalize Lib.compareInt x.f0 y.f0 = r at hcon ⊢
  go_enter Tryd.func63, Tryd.ntmps63
  go_wp2_with (go_at_call 64; refine (hcon _).mono ?_; rintro e w' ⟨rfl, rfl⟩)
  go_ret
  exact ⟨rfl, 0, _, by rw [alloc_eq_grow, alloc_eq_grow, grow_grow]; rfl⟩
theorem laysR (blk off size : Nat) (w : World) : CmpLays Tryd.prog 63 #[] encR 2 cfR blk off size w := fun _ _ _ _ x y => cloR x y _
theorem rdR {l : List SR} {i : Nat} (h : i < l.length) : rd_T46 l (i : Int) = l[i] := by unfold rd_T46; simp [List.getD_eq_getElem?_getD, List.getElem?_eq_getElem h]
theorem two_split (j : Nat) : j / 2 * 2 + j % 2 = j ∧ (j % 2 = 0 ∨ j % 2 = 1) := by omega
theorem holdsR {w : World} {g n : Nat} {l : List SR} {cur : Array Value} {e : TypeId} (h : Kd.C kR w (some ⟨g, 0, none⟩) n l) (hn : n = l.length) (hb : w.heap[g]? = some (.cells cur e (0, 0))) : HoldsK encR 2 w g 0 l.toArray := by
  intro j hj
  rw [size_flatK] at hj
  have hjl : j / 2 < l.length := by have := hj; simp only [List.size_toArray] at this; omega
  refine ⟨?_, by simp [World.frozen?, hb]⟩
  obtain ⟨ad, e1, z0, z1⟩ := at_T46 h ((j / 2 : Nat) : Int) (by omega) (by omega)
  obtain rfl := Option.some.inj e1
  rw [get_flatK _ _ _ _ hj]
  have e2 : (l.toArray[j / 2]! : SR) = rd_T46 l ((j / 2 : Nat) : Int) := by
    rw [rdR hjl]
    simp [getElem!_pos, hjl]
  rw [Int.toNat_natCast] at z0 z1
  obtain ⟨s1, s2⟩ := two_split j
  have e3 : (⟨g, 0, none⟩ : Addr).add (j / 2 * 2) = ⟨g, j / 2 * 2, none⟩ := by
    unfold Addr.add
    split
    · rename_i h0; rw [h0]
    · simp
  rw [e3] at z0 z1
  rw [e2, Nat.zero_add]
  rcases s2 with s2 | s2
  · rw [s2]
    have e4 : j = j / 2 * 2 := by omega
    rw [← e4] at z0
    exact z0
  · rw [s2]
    have e4 : j = j / 2 * 2 + 1 := by omega
    simp only [← e4] at z1
    exact z1
theorem below_sortR (w : World) (g n : Nat) (hg : g < w.heap.size) (d : Array SR) (os : Array Obj) : Below g w (sortWorldK encR 2 w g 0 n d os) := by
  refine ⟨rfl, rfl, rfl, by simp [sortWorldK, grow, putRowK, putRow, mapBlock, Sort.ahead], fun k hk => ?_⟩
  unfold sortWorldK
  rw [heap_grow_old _ _ (by simp [putRowK, putRow, mapBlock, Sort.ahead]; omega)]
  have : g ≠ k := by omega
  simp [putRowK, putRow, mapBlock, Sort.ahead, Array.getElem?_modify, this]
theorem SortP (w : World) (g cap n : Nat) (cur : Array Value) (e : TypeId) (l : List SR) (h : Kd.C kR w (some ⟨g, 0, none⟩) n l) (hn : n = l.length) (hb : w.heap[g]? = some (.cells cur e (0, 0))) (hl : n ≤ 1000) (m : List SR) (hm : rise m = true) (hp : m.Perm l) :
    Calls Tryd.prog 62 #[.slice (some ⟨g, 0, none⟩) n cap, .func (.func 63) #[] #[]] w fun e w' => e = .returned (.tuple #[]) ∧ Below g w w' ∧ ∀ i (h : i < m.length), w'.cell? ⟨g, i * 2, none⟩ = some (.int .i32 m[i].f0) ∧ w'.cell? ⟨g, i * 2 + 1, none⟩ = some (.int .i32 m[i].f1) := by
  have eg : ∀ args w, (callFunc 63 args).run Tryd.prog w = .ok (.enter 63 args) w := enters_of Tryd.func63 (by kernel_rfl) rfl
  have hg : g < w.heap.size := (Array.getElem?_eq_some_iff.1 hb).1
  have hH := holdsR h hn hb
  subst hn
  have hcon := AnyQ.slices_SortFunc Vkl.sortR 2 Tryd.isAgg46 Tryd.sizeOf46 encR (fun _ => rfl) (fun x v hv => by simp [encR] at hv; rcases hv with rfl | rfl <;> rfl) cfR swoR 63 #[] g 0 cap l.toArray w eg (laysR g 0 l.toArray.size w) hH hg (by simp; omega)
  refine Calls.mono hcon ?_
  rintro e w' ⟨rfl, d', q, os, hperm, hsort, rfl⟩
  have hs : d'.size = l.length := hperm.1
  have e1 : d'.toList = m := by
    refine rise_uniq m d'.toList hm ?_ ?_
    · rw [List.pairwise_iff_getElem]
      intro i j hi hj hij
      simp only [Array.length_toList] at hi hj
      have h1 := hsort i j (Nat.zero_le _) hij (by simp; omega)
      rw [ltR, decide_eq_false_iff_not, getElem!_pos d' i hi, getElem!_pos d' j hj] at h1
      simp only [Array.getElem_toList]
      omega
    · have h1 := hperm.2.2
      simp only [List.size_toArray] at h1
      rw [← hs] at h1
      simp only [Array.extract_size] at h1
      have h2 : (l.toArray.extract 0 d'.size).toList = l := by rw [hs]; simp
      rw [h2] at h1
      exact h1.trans hp.symm
  refine ⟨rfl, below_sortR w g q hg d' os, fun i hi => ?_⟩
  have hi2 : i < d'.size := by rw [← e1] at hi; simpa using hi
  have hW := holdsK_sortWorldK encR 2 w g 0 q l.toArray d' os hg hH (by simp [hs])
  have e2 : d'[i]! = m[i] := by
    rw [getElem!_pos d' i hi2]
    subst e1
    simp
  have c0 := (HoldsK.cell hW hi2 (show 0 < 2 by decide)).1
  have c1 := (HoldsK.cell hW hi2 (show 1 < 2 by decide)).1
  rw [e2, Nat.zero_add] at c0 c1
  exact ⟨c0, c1⟩
end Go.Proofs.YthffpkdadffinaaDoor.Vks
namespace Go.Proofs.YthffpkdadffinaaDoor.Fm
set_option linter.unusedVariables false
set_option linter.unusedSimpArgs false
open Go.RowKit Go.Proofs.YthffpkdadffinaaDoorW.PrintWords Go.Proofs.YthffpkdadffinaaDoor.Hp
structure Th where
  P : (Nat → Prop) → World → Prop
  loc : ∀ {ok w w'}, P ok w → (∀ k, ok k → k < w.heap.size → w'.heap[k]? = w.heap[k]?) → P ok w'
  bnd : ∀ {ok w}, P ok w → P (fun k => ok k ∧ k < w.heap.size) w
def rowT {α : Type} (d : Kd α) (e : Nat) (base : Nat) (v : Value) (xs : List α) : Th :=
  ⟨fun ok w => d.R e w base ok v xs, fun h hm => Kd.R_step h hm, fun h => Kd.R_mono (Kd.R_bound h) (fun _ hk => ⟨hk.1, hk.2.2.1⟩)⟩
def Sep (w0 : World) (L : List Th) (w : World) : Prop :=
  ∃ ok : Nat → Nat → Prop, (∀ (i : Nat) (T : Th), L[i]? = some T → T.P (ok i) w) ∧ (∀ i j b, i ≠ j → ok i b → ¬ ok j b) ∧ (∀ i b, ok i b → w0.heap.size ≤ b ∧ b < w.heap.size) ∧ Below w0.heap.size w0 w
section
variable {w0 w w' : World} {L : List Th} {T T' T2 : Th}
theorem Sep.below (h : Sep w0 L w) : Below w0.heap.size w0 w := by obtain ⟨_, _, _, _, h⟩ := h; exact h
theorem Sep.nil (w0 : World) : Sep w0 [] w0 := ⟨fun _ _ => False, by simp, by simp, by simp, Below.refl _ _⟩
theorem Sep.later (h : Sep w0 L w) (hb : Below w.heap.size w w') : Sep w0 L w' := by
  obtain ⟨ok, h1, h2, h3, h4⟩ := h
  exact ⟨ok, fun i T hT => T.loc (h1 i T hT) (fun k _ hlt => hb.block k hlt), h2, fun i b hb' => ⟨(h3 i b hb').1, Nat.lt_of_lt_of_le (h3 i b hb').2 hb.size⟩, below_then h4 h4.size hb⟩
theorem Sep.one (h : Sep w0 L w) (i : Nat) (T : Th) (hi : L[i]? = some T) : ∃ ok : Nat → Prop, T.P ok w := by
  obtain ⟨ok, h1, _⟩ := h
  exact ⟨ok i, h1 i T hi⟩
theorem Sep.op2 (h : Sep w0 L w) (i : Nat) (T : Th) (hi : L[i]? = some T) :
    ∃ ok : Nat → Prop, T.P ok w ∧ (∀ b, ok b → w0.heap.size ≤ b) ∧ ∀ (w' : World) (T' T2 : Th) (ok' ok2 : Nat → Prop), T'.P ok' w' → T2.P ok2 w' → (∀ b, ok' b → ok b ∨ w.heap.size ≤ b) → (∀ b, ok2 b → w.heap.size ≤ b) → (∀ b, ok' b → ¬ ok2 b) → Chg ok w w' →
      Sep w0 (L.set i T' ++ [T2]) w' := by
  obtain ⟨ok, h1, h2, h3, h4⟩ := h
  refine ⟨ok i, h1 i T hi, fun b hb => (h3 i b hb).1, fun w' T' T2 ok' ok2 p1 p2 hs hs2 hd hc => ⟨fun j b => if j = i then ok' b ∧ b < w'.heap.size else if j = L.length then ok2 b ∧ b < w'.heap.size else ok j b, ?_, ?_, ?_, ?_⟩⟩
  · intro j U hj
    have hil : i < L.length := (List.getElem?_eq_some_iff.1 hi).1
    rw [List.getElem?_append, List.length_set] at hj
    split at hj
    · rename_i hjl
      by_cases e : j = i
      · subst e
        rw [List.getElem?_set_self hil] at hj
        injection hj with hj
        subst hj
        simp only [if_true]
        exact T'.bnd p1
      · rw [List.getElem?_set_ne (Ne.symm e)] at hj
        simp only [if_neg e, if_neg (show ¬ j = L.length by omega)]
        exact U.loc (h1 j U hj) (fun b hb hlt => hc.keep b hlt (fun hb2 => h2 j i b e hb hb2))
    · rename_i hjl
      rcases Nat.lt_or_ge (j - L.length) 1 with h5 | h5
      · have e : j = L.length := by omega
        subst e
        simp at hj
        subst hj
        simp only [if_neg (show ¬ L.length = i by omega), if_true]
        exact T2.bnd p2
      · rw [List.getElem?_eq_none (by simpa using h5)] at hj; cases hj
  · intro j l b hjl hj hl
    have old : ∀ m c, ok m c → c < w.heap.size := fun m c hm => (h3 m c hm).2
    split at hj
    · split at hl
      · omega
      · split at hl
        · exact hd b hj.1 hl.1
        · rcases hs b hj.1 with h | h
          · rename_i ej el _
            exact h2 i l b (Ne.symm el) h hl
          · have := old l b hl; omega
    · rename_i ej
      split at hj
      · split at hl
        · exact hd b hl.1 hj.1
        · rename_i el
          split at hl
          · omega
          · have := hs2 b hj.1; have := old l b hl; omega
      · split at hl
        · rcases hs b hl.1 with h | h
          · exact h2 j i b ej hj h
          · have := old j b hj; omega
        · split at hl
          · have := hs2 b hl.1; have := old j b hj; omega
          · exact h2 j l b hjl hj hl
  · intro j b hj
    split at hj
    · refine ⟨?_, hj.2⟩
      rcases hs b hj.1 with h | h
      · exact (h3 i b h).1
      · have := h4.size; omega
    · split at hj
      · have := h4.size; have := hs2 b hj.1; exact ⟨by omega, hj.2⟩
      · exact ⟨(h3 j b hj).1, Nat.lt_of_lt_of_le (h3 j b hj).2 hc.size⟩
  · exact hc.below_of h4 (fun b hb => (h3 i b hb).1)
theorem Sep.init (h : Sep w0 (L ++ [T]) w) : Sep w0 L w := by
  obtain ⟨ok, h1, h2, h3, h4⟩ := h
  exact ⟨ok, fun i U hU => h1 i U (by rw [List.getElem?_append_left (List.getElem?_eq_some_iff.1 hU).1]; exact hU), h2, h3, h4⟩
def noT : Th := ⟨fun _ _ => True, fun _ _ => trivial, fun _ => trivial⟩
theorem Sep.op (h : Sep w0 L w) (i : Nat) (T : Th) (hi : L[i]? = some T) :
    ∃ ok : Nat → Prop, T.P ok w ∧ (∀ b, ok b → w0.heap.size ≤ b) ∧ ∀ (w' : World) (T' : Th) (ok' : Nat → Prop), T'.P ok' w' → (∀ b, ok' b → ok b ∨ w.heap.size ≤ b) → Chg ok w w' → Sep w0 (L.set i T') w' := by
  obtain ⟨ok, h1, h2, h3⟩ := h.op2 i T hi
  exact ⟨ok, h1, h2, fun w' T' ok' p1 hs hc => (h3 w' T' noT ok' (fun _ => False) p1 trivial hs (fun _ hb => hb.elim) (fun _ _ hb => hb) hc).init⟩
theorem Sep.new (h : Sep w0 L w) (T : Th) {ok : Nat → Prop} (hs : T.P ok w') (hn : ∀ b, ok b → w.heap.size ≤ b) (hb : Below w.heap.size w w') : Sep w0 (L ++ [T]) w' := by
  have hl := h.later hb
  obtain ⟨oks, h1, h2, h3, h4⟩ := h
  obtain ⟨_, _, _, _, h5⟩ := hl
  refine ⟨fun j b => if j = L.length then ok b ∧ b < w'.heap.size else oks j b, ?_, ?_, ?_, h5⟩
  · intro j U hj
    rw [List.getElem?_append] at hj
    split at hj
    · simp only [if_neg (show ¬ j = L.length by omega)]
      exact U.loc (h1 j U hj) (fun b _ hlt => hb.block b hlt)
    · rcases Nat.lt_or_ge (j - L.length) 1 with h6 | h6
      · have e : j = L.length := by omega
        subst e
        simp at hj
        subst hj
        simp only [if_true]
        exact T.bnd hs
      · rw [List.getElem?_eq_none (by simpa using h6)] at hj; cases hj
  · intro j l b hjl hj hl
    split at hj
    · split at hl
      · omega
      · have := hn b hj.1; have := (h3 l b hl).2; omega
    · split at hl
      · have := hn b hl.1; have := (h3 j b hj).2; omega
      · exact h2 j l b hjl hj hl
  · intro j b hj
    split at hj
    · have := h4.size; have := hn b hj.1; exact ⟨by omega, hj.2⟩
    · exact ⟨(h3 j b hj).1, Nat.lt_of_lt_of_le (h3 j b hj).2 hb.size⟩
theorem Sep.row {α : Type} {d : Kd α} {e base : Nat} {v : Value} {xs : List α} (h : Sep w0 L w) (i : Nat) (hi : L[i]? = some (rowT d e base v xs)) :
    ∃ ok : Nat → Prop, d.R e w base ok v xs ∧ (∀ k, w.heap.size ≤ k → ok k) ∧ ∀ (v1 : Value) (w1 : World) (xs1 : List α), d.R e w1 base ok v1 xs1 → w.grownBy w1 v.ownBlock → Sep w0 (L.set i (rowT d e base v1 xs1)) w1 := by
  obtain ⟨ok, h1, h2, h3⟩ := h.op i _ hi
  have h1' : d.R e w base ok v xs := h1
  exact ⟨fun b => ok b ∨ w.heap.size ≤ b, Kd.R_mono h1' (fun _ hk => .inl hk), fun _ hk => .inr hk, fun v1 w1 xs1 hr hg =>
    h3 w1 (rowT d e base v1 xs1) _ hr (fun _ hb => hb) ((Chg.refl ok w).grown hg (fun k hk => .inl (h1'.1 k hk)))⟩
theorem Sep.reads {α : Type} {d : Kd α} {e base : Nat} {v : Value} {xs : List α} (h : Sep w0 L w) (i : Nat) (hi : L[i]? = some (rowT d e base v xs)) : ∃ A c, v = .slice A xs.length c ∧ xs.length ≤ c ∧ d.C w A xs.length xs := by
  obtain ⟨ok, h1⟩ := h.one i _ hi
  exact Kd.R_reads (show d.R e w base ok v xs from h1)
end
end Go.Proofs.YthffpkdadffinaaDoor.Fm
