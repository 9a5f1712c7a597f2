/-
  Several texts of this claim in one: what its law's proof uses.
-/
import Derived.Test.YthffpkdadffinaaDoorMWBS2
import Derived.Test.YthffpkdadffinaaDoorMWBS11
import Derived.Test.YthffpkdadffinaaDoorMWBS15
import Derived.Test.YthffpkdadffinaaDoorMWBS14
import Derived.Lib.SlBytesConst
import Derived.Test.YthffpkdadffinaaDoorMWBS12
import Derived.Test.YthffpkdadffinaaDoorMWBS5
import Derived.Test.YthffpkdadffinaaDoorMWBS13
import Derived.Test.YthffpkdadffinaaDoorMWBS10
import Derived.Test.YthffpkdadffinaaDoorMWBS6
import Derived.Test.YthffpkdadffinaaDoorMWBS4
import Derived.Test.YthffpkdadffinaaDoorMWBS8
import Derived.Deep.RegionHeld3
import Derived.Deep.DeepCutAuto
import Derived.BigQuiet
import Derived.BigRegion
import Derived.Deep.RegionHeld
namespace Go.Proofs.YthffpkdadffinaaDoor.X
open Go.RowKit YthffpkdadffinaaDoorW.PrintWords YthffpkdadffinaaDoorW.PrintLast YthffpkdadffinaaDoorW.PrintMore
attribute [local go_sem] max2_int min2_int max_two min_two max_three min_three max_four min_four   
set_option linter.unusedVariables false
set_option linter.unusedSimpArgs false
def words_Words.f (l0 : List Int) (a1 : Int) : Option ((List (S60)) × Int) := (seg_Split.f l0 a1).bind fun bt404 => (if bt404.2 = 0 then ((words_Join.f bt404.1).bind fun t408 => (some (t408, 0))) else (some (([] : List (S60)), bt404.2)))
set_option maxHeartbeats 8000000 in
set_option maxRecDepth 100000 in
theorem words_Words.calls (A0 : Option Addr) (c0 : Nat) (l0 : List Int) (a1 : Int) (r1 : List (S60)) (r2 : Int) (w : World) (hr0 : Kd.C (Kd.int .u8) w A0 l0.length l0) (hc0 : l0.length ≤ c0) (h : words_Words.f l0 a1 = some (r1, r2)) (hG0 : Va.G w) :
  Calls Tryd.prog 27 #[.slice A0 l0.length c0, .int .i64 a1] w fun e w' => ∃ v0_ : Value, e = .returned (.tuple #[v0_, .int .i64 r2]) ∧ Kd.R k60 60 w' w.heap.size (fun _ => True) v0_ r1 ∧ Below w.heap.size w w' := by
 have HG := Aside0.mk hG0; clear hG0; have HR0 := Aside0.mk hr0; have HC0 := Aside0.mk hc0; clear hr0 hc0; have HB := Aside0.mk (Below.refl w.heap.size w); have H : ((seg_Split.f l0 a1).bind fun bt404 => (if bt404.2 = 0 then ((words_Join.f bt404.1).bind fun t408 => (some (t408, 0))) else (some (([] : List (S60)), bt404.2)))) = some (r1, r2) := h; clear h; replace H := Option.bind_eq_some_iff.mp H; obtain ⟨⟨t404, t405⟩, A30, H⟩ := H; (try dsimp only at H); have A3 := Aside0.mk A30; clear A30; by_cases c4 : t405 = 0
 ·rw [if_pos c4] at H; have c4b0 : (t405 == 0) = true := beq_iff_eq.mpr c4; have c4b1 : (t405 != 0) = false := bne_eq_false_iff_eq.mpr c4; clear c4; replace H := Option.bind_eq_some_iff.mp H; obtain ⟨t408, A50, H⟩ := H; replace H : (some (t408, 0)) = some (r1, r2) := H; have A5 := Aside0.mk A50; clear A50; simp only [Option.some.injEq, Prod.mk.injEq] at H; obtain ⟨rfl, rfl⟩ := H; go_enter Tryd.func27, Tryd.ntmps27; go_wp2_with (first | ((with_reducible refine gate_callee (f := 39) rfl ?_); refine goesL_ (some 11) rfl rfl Tryd.func39 (by kernel_rfl) rfl #[.slice A0 l0.length c0, .int .i64 a1] rfl (by (try simp only [List.map_toArray, List.map_cons, List.map_nil]); first | done | rfl | (simp only [List.length_drop, List.length_take]; rfl)) ?_; (with_reducible refine (seg_Split.calls _ _ l0 a1 t404 t405 _ ?side1 ?side2 A3.out (by first | exact HG.out | exact Va.G.below HG.out (by repeat (first | (with_reducible first | exact HB.out | apply below_alloc | apply pw_below_drewN | apply below_drew1) | exact HB.out)))).mono ?_); (case side1 => repeat (first | exact HR0.out | (with_reducible refine Kd.C_alloc ?_ _) | (with_reducible refine Kd.C_drewN ?_ _) | (with_reducible refine Kd.C_drew ?_))); (case side2 => exact HC0.out); rintro e w6 ⟨v406, rfl, ho0, hb⟩; refine ⟨_, rfl, ?_⟩; have n0_ := Aside0.mk (Kd.R_lower ho0 (below_size (by repeat (first | (with_reducible first | exact HB.out | apply below_alloc | apply pw_below_drewN | apply below_drew1) | exact HB.out)))); have n1_ := Aside0.mk (below_step (by repeat (first | (with_reducible first | exact HB.out | apply below_alloc | apply pw_below_drewN | apply below_drew1) | exact HB.out)) hb); clear HB; have HO407 := n0_; have HB := n1_; clear n0_ n1_; (try clear hb); (try clear hb2); (try clear hk); (try clear hi); (try clear ho0); obtain ⟨Ao7, co7, eo7⟩ := Kd.R_slice HO407.out; subst eo7) | ((with_reducible refine gate_callee (f := 30) rfl ?_); refine goesL_ (some 18) rfl rfl Tryd.func30 (by kernel_rfl) rfl #[.slice Ao7 t404.length co7] rfl (by (try simp only [List.map_toArray, List.map_cons, List.map_nil]); first | done | rfl | (simp only [List.length_drop, List.length_take]; rfl)) ?_; (with_reducible refine (words_Join.calls _ _ t404 t408 _ ?side1 ?side2 A5.out (by first | exact HG.out | exact Va.G.below HG.out (by repeat (first | (with_reducible first | exact HB.out | apply below_alloc | apply pw_below_drewN | apply below_drew1) | exact HB.out)))).mono ?_); (case side1 => repeat (first | exact (Kd.R_reads' HO407.out).2.2 | (with_reducible refine Kd.C_alloc ?_ _) | (with_reducible refine Kd.C_drewN ?_ _) | (with_reducible refine Kd.C_drew ?_))); (case side2 => exact (Kd.R_reads' HO407.out).2.1); rintro e w8 ⟨v409, rfl, ho0, hb⟩; refine ⟨_, rfl, ?_⟩; have n0_ := Aside0.mk (Kd.R_below (by (with_reducible repeat (first | apply Kd.R_alloc | apply Kd.R_drewN | apply Kd.R_drew)); exact HO407.out) hb); have n1_ := Aside0.mk (Kd.R_lower ho0 (below_size (by repeat (first | (with_reducible first | exact HB.out | apply below_alloc | apply pw_below_drewN | apply below_drew1) | exact HB.out)))); have n2_ := Aside0.mk (below_step (by repeat (first | (with_reducible first | exact HB.out | apply below_alloc | apply pw_below_drewN | apply below_drew1) | exact HB.out)) hb); clear HO407; clear HB; have HO407 := n0_; have HO410 := n1_; have HB := n2_; clear n0_ n1_ n2_; (try clear hb); (try clear hb2); (try clear hk); (try clear hi); (try clear ho0))); go_ret2; exact ⟨_, by first | rfl | (simp [errW_none, errW_some] <;> rfl) | (simp [*, errW_none, errW_some] <;> rfl), by (with_reducible repeat (first | apply Kd.R_alloc | apply Kd.R_drewN | apply Kd.R_drew)); exact HO410.out, by repeat (first | (with_reducible first | exact HB.out | apply below_alloc | apply pw_below_drewN | apply below_drew1) | exact HB.out)⟩
 ·rw [if_neg c4] at H; have c4b0 : (t405 == 0) = false := beq_eq_false_iff_ne.mpr c4; have c4b1 : (t405 != 0) = true := bne_iff_ne.mpr c4; simp only [Option.some.injEq, Prod.mk.injEq] at H; obtain ⟨rfl, rfl⟩ := H; go_enter Tryd.func27, Tryd.ntmps27; go_wp2_with (first | ((with_reducible refine gate_callee (f := 39) rfl ?_); refine goesL_ (some 11) rfl rfl Tryd.func39 (by kernel_rfl) rfl #[.slice A0 l0.length c0, .int .i64 a1] rfl (by (try simp only [List.map_toArray, List.map_cons, List.map_nil]); first | done | rfl | (simp only [List.length_drop, List.length_take]; rfl)) ?_; (with_reducible refine (seg_Split.calls _ _ l0 a1 t404 t405 _ ?side1 ?side2 A3.out (by first | exact HG.out | exact Va.G.below HG.out (by repeat (first | (with_reducible first | exact HB.out | apply below_alloc | apply pw_below_drewN | apply below_drew1) | exact HB.out)))).mono ?_); (case side1 => repeat (first | exact HR0.out | (with_reducible refine Kd.C_alloc ?_ _) | (with_reducible refine Kd.C_drewN ?_ _) | (with_reducible refine Kd.C_drew ?_))); (case side2 => exact HC0.out); rintro e w9 ⟨v406, rfl, ho0, hb⟩; refine ⟨_, rfl, ?_⟩; have n0_ := Aside0.mk (Kd.R_lower ho0 (below_size (by repeat (first | (with_reducible first | exact HB.out | apply below_alloc | apply pw_below_drewN | apply below_drew1) | exact HB.out)))); have n1_ := Aside0.mk (below_step (by repeat (first | (with_reducible first | exact HB.out | apply below_alloc | apply pw_below_drewN | apply below_drew1) | exact HB.out)) hb); clear HB; have HO407 := n0_; have HB := n1_; clear n0_ n1_; (try clear hb); (try clear hb2); (try clear hk); (try clear hi); (try clear ho0))); go_ret2; exact ⟨_, by first | rfl | (simp [errW_none, errW_some] <;> rfl) | (simp [*, errW_none, errW_some] <;> rfl), by first | exact Kd.R_nil _ _ _ _ _ | exact Kd.N_nil _ _ _ _ _ | exact Kd.V_nil _ _ _ _ _ | exact Kd.Q_nil _ _ _ _ _ | exact Kd.S_nil _ _ _ _ _, by repeat (first | (with_reducible first | exact HB.out | apply below_alloc | apply pw_below_drewN | apply below_drew1) | exact HB.out)⟩
end Go.Proofs.YthffpkdadffinaaDoor.X
namespace Go.Proofs.YthffpkdadffinaaDoor.X
open Go.RowKit YthffpkdadffinaaDoorW.PrintWords YthffpkdadffinaaDoorW.PrintLast YthffpkdadffinaaDoorW.PrintMore
attribute [local go_sem] max2_int min2_int max_two min_two max_three min_three max_four min_four   
set_option linter.unusedVariables false
set_option linter.unusedSimpArgs false
def words_Same.f (k : Nat) (l0 : List Int) (l1 : List Int) : Option (Bool) := (words_Key.f k l0).bind fun t464 => ((words_Key.f k l1).bind fun t465 => (some (t464.toList == t465.toList)))
theorem words_Same.mono : ∀ a0 a1 k, LeO (words_Same.f k a0 a1) (words_Same.f (k + 1) a0 a1) := by
 intro a0 a1 k; unfold words_Same.f; repeat' first | (with_reducible exact words_Key.mono _ _) | (with_reducible exact LeO.refl _) | (with_reducible exact LeO.none _) | (with_reducible refine LeO.ite ?_ ?_) | (with_reducible refine LeO.bind ?_ (fun _ => ?_)) | exact words_Key.mono _ _ | exact LeO.none _ | refine LeO.ite ?_ ?_ | refine LeO.bind ?_ (fun _ => ?_)
set_option maxHeartbeats 8000000 in
set_option maxRecDepth 100000 in
theorem words_Same.calls (k : Nat) (A0 : Option Addr) (c0 : Nat) (l0 : List Int) (A1 : Option Addr) (c1 : Nat) (l1 : List Int) (r : Bool) (w : World) (hr0 : Kd.C (Kd.int .u8) w A0 l0.length l0) (hc0 : l0.length ≤ c0) (hr1 : Kd.C (Kd.int .u8) w A1 l1.length l1) (hc1 : l1.length ≤ c1) (h : words_Same.f k l0 l1 = some r) (hG0 : Va.G w) :
  Calls Tryd.prog 35 #[.slice A0 l0.length c0, .slice A1 l1.length c1] w fun e w' => e = .returned (.bool r) ∧ Below w.heap.size w w' := by
 have HG := Aside0.mk hG0; clear hG0; have HR0 := Aside0.mk hr0; have HC0 := Aside0.mk hc0; clear hr0 hc0; have HR1 := Aside0.mk hr1; have HC1 := Aside0.mk hc1; clear hr1 hc1; have HB := Aside0.mk (Below.refl w.heap.size w); have H : ((words_Key.f k l0).bind fun t464 => ((words_Key.f k l1).bind fun t465 => (some (t464.toList == t465.toList)))) = some r := h; clear h; replace H := Option.bind_eq_some_iff.mp H; obtain ⟨t464, A30, H⟩ := H; (try dsimp only at H); have A3 := Aside0.mk A30; clear A30; replace H := Option.bind_eq_some_iff.mp H; obtain ⟨t465, A40, H⟩ := H; (try dsimp only at H); have A4 := Aside0.mk A40; clear A40; obtain rfl := Option.some.inj H; go_enter Tryd.func35, Tryd.ntmps35; go_wp2_with (first | ((with_reducible refine gate_callee (f := 32) rfl ?_); refine goesL_ (some 6) rfl rfl Tryd.func32 (by kernel_rfl) rfl #[.slice A0 l0.length c0] rfl (by (try simp only [List.map_toArray, List.map_cons, List.map_nil]); first | done | rfl | (simp only [List.length_drop, List.length_take]; rfl)) ?_; (with_reducible refine (words_Key.calls k _ _ l0 t464 _ ?side1 ?side2 A3.out (by first | exact HG.out | exact Va.G.below HG.out (by repeat (first | (with_reducible first | exact HB.out | apply below_alloc | apply pw_below_drewN | apply below_drew1) | exact HB.out)))).mono ?_); (case side1 => repeat (first | exact HR0.out | (with_reducible refine Kd.C_alloc ?_ _) | (with_reducible refine Kd.C_drewN ?_ _) | (with_reducible refine Kd.C_drew ?_))); (case side2 => exact HC0.out); rintro e w5 ⟨rfl, hb⟩; refine ⟨_, rfl, ?_⟩; have n0_ := Aside0.mk (below_step (by repeat (first | (with_reducible first | exact HB.out | apply below_alloc | apply pw_below_drewN | apply below_drew1) | exact HB.out)) hb); clear HB; have HB := n0_; clear n0_; (try clear hb); (try clear hb2); (try clear hk); (try clear hi)) | ((with_reducible refine gate_callee (f := 32) rfl ?_); refine goesL_ (some 8) rfl rfl Tryd.func32 (by kernel_rfl) rfl #[.slice A1 l1.length c1] rfl (by (try simp only [List.map_toArray, List.map_cons, List.map_nil]); first | done | rfl | (simp only [List.length_drop, List.length_take]; rfl)) ?_; (with_reducible refine (words_Key.calls k _ _ l1 t465 _ ?side1 ?side2 A4.out (by first | exact HG.out | exact Va.G.below HG.out (by repeat (first | (with_reducible first | exact HB.out | apply below_alloc | apply pw_below_drewN | apply below_drew1) | exact HB.out)))).mono ?_); (case side1 => repeat (first | exact (Kd.C_below HR1.out HB.out) | (with_reducible refine Kd.C_alloc ?_ _) | (with_reducible refine Kd.C_drewN ?_ _) | (with_reducible refine Kd.C_drew ?_))); (case side2 => exact HC1.out); rintro e w6 ⟨rfl, hb⟩; refine ⟨_, rfl, ?_⟩; have n0_ := Aside0.mk (below_step (by repeat (first | (with_reducible first | exact HB.out | apply below_alloc | apply pw_below_drewN | apply below_drew1) | exact HB.out)) hb); clear HB; have HB := n0_; clear n0_; (try clear hb); (try clear hb2); (try clear hk); (try clear hi))); go_ret; exact ⟨by first | rfl | (simp [errW_none, errW_some] <;> rfl) | (simp [*, errW_none, errW_some] <;> rfl), by repeat (first | (with_reducible first | exact HB.out | apply below_alloc | apply pw_below_drewN | apply below_drew1) | exact HB.out)⟩
end Go.Proofs.YthffpkdadffinaaDoor.X
namespace Go.Proofs.YthffpkdadffinaaDoor.Wf
set_option linter.unusedVariables false
set_option linter.unusedSimpArgs false
open Go.Proofs.YthffpkdadffinaaDoor.Ux (Bytes)
open Go.RowKit YthffpkdadffinaaDoorW.PrintWords Hp Fm X Va Oa Vp0 Sga Sgb Sgd Wa Wb Wd Wg Wj
section
variable {w0 w w' : World} {L M : List Th}
theorem wordsC (hG : G w0) (S : Sep w0 L w) (A : Option Addr) (n c : Nat) (xs : List Int) (hC : KB.C w A n xs) (hn : n = xs.length) (hc : n ≤ c) (lim : Int) (out : List SW) (er : Int) (m : Nat) (hr : words_Words.f xs lim = some (out, er)) (hm : m = out.length) :
    Calls Tryd.prog 27 #[.slice A n c, .int .i64 lim] w fun E w' => ∃ A' c', E = .returned (.tuple #[.slice A' m c', .int .i64 er]) ∧ Sep w0 (L ++ [rowT kW TW w0.heap.size (.slice A' m c') out]) w' := by
  subst hm hn; refine (words_Words.calls A c xs lim out er w hC hc hr (hG.below S.below)).mono ?_; rintro E w' ⟨v, rfl, p1, p2⟩; obtain ⟨A', c', rfl⟩ := Kd.R_slice p1; exact ⟨A', c', rfl, S.newR p1 p2⟩
end
theorem wd_at {w : World} {A : Option Addr} {n : Nat} {l : List SW} (h : Kd.C kW w A n l) (j : Nat) (hj : j < n) (hjl : j < l.length) :
    ∃ ad, A = some ad ∧ w.cell? (ad.add (j * 5)) = some (.string l[j].f0) ∧ w.cell? ⟨(ad.add (j * 5)).block, (ad.add (j * 5)).off + 1, none⟩ = some (.int .i64 l[j].f1.f0) ∧ w.cell? ⟨(ad.add (j * 5)).block, (ad.add (j * 5)).off + 2, none⟩ = some (.int .i64 l[j].f1.f1) ∧ w.cell? ⟨(ad.add (j * 5)).block, (ad.add (j * 5)).off + 3, none⟩ = some (.int .i64 l[j].f1.f2) ∧ w.cell? ⟨(ad.add (j * 5)).block, (ad.add (j * 5)).off + 4, none⟩ = some (.int .i64 l[j].f1.f3) := by
  have := at_T60 h (j : Int) (by omega) (by omega); have e : rd_T60 l (j : Int) = l[j] := rdW hjl; rw [Int.toNat_natCast, e] at this; exact this
def b1 : List Int := [73, 116, 39, 115, 32, 51, 46, 53, 32, 195, 137, 116, 195, 169, 115, 44, 32, 101, 46, 103, 46, 32, 95, 120, 49]
def b2 : List Int := [39, 97, 39, 32, 49, 46, 32, 46, 53]
def o1 : List SW := [⟨⟨#[105, 116, 39, 115]⟩, ⟨0, 4, 0, 4⟩⟩, ⟨⟨#[51, 46, 53]⟩, ⟨5, 8, 5, 8⟩⟩, ⟨⟨#[101, 204, 129, 116, 101, 204, 129, 115]⟩, ⟨9, 13, 9, 15⟩⟩, ⟨⟨#[101]⟩, ⟨15, 16, 17, 18⟩⟩, ⟨⟨#[103]⟩, ⟨17, 18, 19, 20⟩⟩, ⟨⟨#[95, 120, 49]⟩, ⟨20, 23, 22, 25⟩⟩]
def o2 : List SW := [⟨⟨#[97]⟩, ⟨1, 2, 1, 2⟩⟩, ⟨⟨#[49]⟩, ⟨4, 5, 4, 5⟩⟩, ⟨⟨#[53]⟩, ⟨8, 9, 8, 9⟩⟩]
theorem e1 : words_Words.f b1 64 = some (o1, 0) := by kernel_rfl
theorem e2 : words_Words.f b2 64 = some (o2, 0) := by kernel_rfl
theorem e3 : words_Words.f [] 0 = some ([], 1) := by kernel_rfl
theorem k1 : words_Key.f 60 [83, 84, 82, 65, 83, 83, 69] = some ⟨#[115, 116, 114, 97, 115, 115, 101]⟩ := by decide +kernel
theorem k2 : words_Same.f 60 [83, 84, 82, 65, 83, 83, 69] [83, 116, 114, 97, 195, 159, 101] = some true := by decide +kernel
theorem conv2 (W : World) (o : Obj) (C : Array Value) (n c : Nat) : (convert 23 23 (.slice (some ⟨W.heap.size + 1, 0, none⟩) n c)).run Tryd.prog ((W.alloc o).alloc (.cells C 5)) = .ok (.slice (some ⟨W.heap.size + 1, 0, none⟩) n c) ((W.alloc o).alloc (.cells C 5 (C.size, C.size + 1))) := by
  have := Lib.run_convert_bytes_const (P := Tryd.prog) (W.alloc o) 23 5 C n c Tryd.underlying23 Tryd.underlying5; rw [World.size_alloc] at this; exact this
theorem keyC (W : World) (hG : G W) : Calls Tryd.prog 32 #[.slice (some ⟨W.heap.size, 0, none⟩) 7 7] (W.alloc (.cells #[.int .u8 83, .int .u8 84, .int .u8 82, .int .u8 65, .int .u8 83, .int .u8 83, .int .u8 69] 5 (7, 8))) fun e w' => e = .returned (.string ⟨#[115, 116, 114, 97, 115, 115, 101]⟩) ∧ Below W.heap.size W w' := by
  have b1 := below_alloc (Below.refl W.heap.size W) (.cells #[.int .u8 83, .int .u8 84, .int .u8 82, .int .u8 65, .int .u8 83, .int .u8 83, .int .u8 69] 5 (7, 8)); refine (words_Key.calls 60 _ 7 [83, 84, 82, 65, 83, 83, 69] _ _ (Sgf.litB W _ (7, 8) [83, 84, 82, 65, 83, 83, 69] rfl (by simp)) (Nat.le_refl _) k1 (hG.below b1)).mono fun e w' ⟨h1, h2⟩ => ⟨h1, below_then b1 b1.size h2⟩
theorem sameC (W : World) (hG : G W) : Calls Tryd.prog 35 #[.slice (some ⟨W.heap.size, 0, none⟩) 7 7, .slice (some ⟨W.heap.size + 1, 0, none⟩) 7 7] ((W.alloc (.cells #[.int .u8 83, .int .u8 84, .int .u8 82, .int .u8 65, .int .u8 83, .int .u8 83, .int .u8 69] 5 (7, 8))).alloc (.cells #[.int .u8 83, .int .u8 116, .int .u8 114, .int .u8 97, .int .u8 195, .int .u8 159, .int .u8 101] 5 (7, 8))) fun e w' => e = .returned (.bool true) ∧ Below W.heap.size W w' := by
  have b1 := below_alloc (Below.refl W.heap.size W) (.cells #[.int .u8 83, .int .u8 84, .int .u8 82, .int .u8 65, .int .u8 83, .int .u8 83, .int .u8 69] 5 (7, 8)); have b2 := below_alloc (Below.refl _ (W.alloc (.cells #[.int .u8 83, .int .u8 84, .int .u8 82, .int .u8 65, .int .u8 83, .int .u8 83, .int .u8 69] 5 (7, 8)))) (.cells #[.int .u8 83, .int .u8 116, .int .u8 114, .int .u8 97, .int .u8 195, .int .u8 159, .int .u8 101] 5 (7, 8)); have b12 := below_then b1 b1.size b2; have h2 := Sgf.litB (W.alloc (.cells #[.int .u8 83, .int .u8 84, .int .u8 82, .int .u8 65, .int .u8 83, .int .u8 83, .int .u8 69] 5 (7, 8))) #[.int .u8 83, .int .u8 116, .int .u8 114, .int .u8 97, .int .u8 195, .int .u8 159, .int .u8 101] (7, 8) [83, 116, 114, 97, 195, 159, 101] rfl (by simp); rw [World.size_alloc] at h2; (refine (words_Same.calls 60 _ 7 [83, 84, 82, 65, 83, 83, 69] _ 7 [83, 116, 114, 97, 195, 159, 101] true _ (Kd.C_below (Sgf.litB W _ (7, 8) [83, 84, 82, 65, 83, 83, 69] rfl (by simp)) b2) (Nat.le_refl _) h2 (Nat.le_refl _) k2 (hG.below b12)).mono fun e w' ⟨h1, h3⟩ => ⟨h1, ?_⟩); exact below_then b12 b12.size h3
set_option maxRecDepth 100000 in
set_option maxHeartbeats 8000000 in
theorem wordsFixedP (w : World) (hG : G w) : Calls Tryd.prog 26 #[] w fun e w' => e = .returned (.bool true) ∧ Below w.heap.size w w' := by
  (have kc := fun (W : World) (C : Array Value) (n c : Nat) => Lib.run_convert_bytes_const (P := Tryd.prog) W 23 5 C n c Tryd.underlying23 Tryd.underlying5); (have kc2 := fun (W : World) (o : Obj) (C : Array Value) (n c : Nat) => conv2 W o C n c); have S0 := Aside0.mk (Sep.nil w); go_enter Tryd.func26, Tryd.ntmps26; go_upto_region 2 with (first | (go_at_call 27; go_must (refine (wordsC hG (S0.out.later (below_alloc (Below.refl _ _) _)) _ 25 25 b1 (Sgf.litB w _ _ b1 rfl (by simp [b1])) rfl (Nat.le_refl _) 64 o1 0 6 e1 rfl).mono ?_; rintro E w1 ⟨A1, c1, rfl, p1⟩; have S1 := Aside0.mk p1; clear p1 S0))); go_upto_region 3 with (first | (go_at_call 27; go_must (refine (wordsC hG (S1.out.later (below_alloc (Below.refl _ _) _)) _ 9 9 b2 (Sgf.litB w1 _ _ b2 rfl (by simp [b2])) rfl (Nat.le_refl _) 64 o2 0 3 e2 rfl).mono ?_; rintro E w2 ⟨A2, c2, rfl, p1⟩; have S2 := Aside0.mk p1; clear p1))); go_upto_region 4 with (first | (go_at_call 27; go_must (refine (wordsC hG S2.out none 0 0 [] (Kd.C_nil KB w2) rfl (Nat.le_refl _) 0 [] 1 0 e3 rfl).mono ?_; rintro E w3 ⟨A3, c3, rfl, p1⟩; have S3 := Aside0.mk p1; clear p1 S2))); have hC := (Sep.rows (d := kW) (e := TW) (base := w.heap.size) (A := A1) (m := 6) (c := c1) (xs := o1) S3.out 0 rfl).2.2; obtain ⟨ad, rfl, z0, -⟩ := wd_at hC 0 (by decide) (by decide); obtain ⟨_, h1, y0, -⟩ := wd_at hC 1 (by decide) (by decide); obtain rfl := Option.some.inj h1; obtain ⟨_, h2, x0, x1, x2, -⟩ := wd_at hC 2 (by decide) (by decide); obtain rfl := Option.some.inj h2; obtain ⟨_, h5, v0, -⟩ := wd_at hC 5 (by decide) (by decide); obtain rfl := Option.some.inj h5; rw [Nat.zero_mul, show ad.add 0 = ad by cases ad; simp [Addr.add]] at z0; replace z0 : w3.cell? ad = some (.string ⟨#[105, 116, 39, 115]⟩) := z0; replace y0 : w3.cell? ⟨ad.block, ad.off + 5, none⟩ = some (.string ⟨#[51, 46, 53]⟩) := y0; replace x0 : w3.cell? ⟨ad.block, ad.off + 10, none⟩ = some (.string ⟨#[101, 204, 129, 116, 101, 204, 129, 115]⟩) := x0; replace x1 : w3.cell? ⟨ad.block, ad.off + 10 + 1, none⟩ = some (.int .i64 9) := x1; replace x2 : w3.cell? ⟨ad.block, ad.off + 10 + 2, none⟩ = some (.int .i64 13) := x2; have x1' : w3.cell? ⟨ad.block, ad.off + 11, none⟩ = some (.int .i64 9) := x1; have x2' : w3.cell? ⟨ad.block, ad.off + 12, none⟩ = some (.int .i64 13) := x2; replace v0 : w3.cell? ⟨ad.block, ad.off + 25, none⟩ = some (.string ⟨#[95, 120, 49]⟩) := v0; have HB := Aside0.mk S3.out.below; have HGG := Aside0.mk hG; clear hC h1 h2 h5 S1 S3; go_wp2_with (first | (go_at_call 32; go_must (refine (keyC w3 (HGG.out.below HB.out)).mono ?_; rintro E w4 ⟨rfl, p1⟩; have n0_ := Aside0.mk (below_then HB.out HB.out.size p1); clear HB p1; have HB := n0_; clear n0_)) | (go_at_call 35; go_must (refine (sameC w4 (HGG.out.below HB.out)).mono ?_; rintro E w5 ⟨rfl, p1⟩; have n0_ := Aside0.mk (below_then HB.out HB.out.size p1); clear HB p1; have HB := n0_; clear n0_)) | (go_at_call 30; go_must (refine (JoinP w5 (HGG.out.below HB.out) none 0 0 [] (Kd.C_nil kG w5) rfl (Nat.le_refl _) (by decide) (by decide)).mono ?_; rintro E w6 ⟨v, rfl, p0, p1⟩; obtain ⟨A6, c6, rfl⟩ := Kd.R_slice p0; have n0_ := Aside0.mk (below_then HB.out HB.out.size p1); clear HB p0 p1; have HB := n0_; clear n0_))); go_ret; exact ⟨rfl, HB.out⟩
end Go.Proofs.YthffpkdadffinaaDoor.Wf
namespace Go.Proofs.YthffpkdadffinaaDoor.X
set_option linter.unusedVariables false
set_option linter.unusedSimpArgs false
open Go.RowKit YthffpkdadffinaaDoorW.PrintWords
end Go.Proofs.YthffpkdadffinaaDoor.X
namespace Go.Proofs.YthffpkdadffinaaDoor.Wt
set_option linter.unusedVariables false
set_option linter.unusedSimpArgs false
open Go.Proofs.YthffpkdadffinaaDoor.Ux (Bytes full)
open Go.Proofs.YthffpkdadffinaaDoor.Ot (rns)
open Go.RowKit YthffpkdadffinaaDoorW.PrintWords Ev0 X Oa Ob Vp0 Sga Sgb Sgd Sgp Sgq Sgv Sgw Wa Wb Wd Wg
theorem catB_len : ∀ l : List ByteArray, sizes l = (catB l).size := fun l => (catB_size l).symm
theorem cut_map (b : List Int) : (cutS (full b)).map (·.f0) = Sgt.cutTS (rns b) := by
  unfold rns cutS Sgt.cutTS
  cases full b with
  | nil => rfl
  | cons p t => exact Sgt.cutR_txt t _ _ _
theorem wordsF_len (l : List SG) : (wordsF l).length ≤ l.length := by
  have h3 := (runs_len (inW (l.map (·.f0))) (l.map (·.f0)).length 0).1; unfold wordsF runsT; rw [List.length_map]; rw [List.length_map] at h3 ⊢; exact h3
end Go.Proofs.YthffpkdadffinaaDoor.Wt
namespace Go.Proofs.YthffpkdadffinaaDoor.Wsm
set_option linter.unusedVariables false
set_option linter.unusedSimpArgs false
open Go.Proofs.YthffpkdadffinaaDoor.Ux (Bytes full one1 one1_width)
open Go.Proofs.YthffpkdadffinaaDoor.Ot (rns)
open Go.Proofs.YthffpkdadffinaaDoor.Na (ins ordR ordL)
open Go.Proofs.YthffpkdadffinaaDoor.En (enc enc1 encv fixr vld enc_append enc_len encv_len)
open Go.RowKit YthffpkdadffinaaDoorW.PrintWords Ev0 X Va Vd Oa Ob Vp0 Sga Sgb Sgd Sgp Sgq Sgt Sgv Sgw Wa Wb Wd Wg
theorem encl_ins (x : Int) : ∀ r : List Int, (enc (ins x r)).length = (enc (x :: r)).length
  | [] => rfl
  | y :: r => by
    have ih := encl_ins x r; rw [ins]; split
    · simp only [enc, List.length_append] at ih ⊢; omega
    · rfl
theorem encl_fold : ∀ (l acc : List Int), (enc (l.foldl (fun acc x => ins x acc) acc)).length = (enc l).length + (enc acc).length
  | [], acc => by simp [enc]
  | x :: l, acc => by
    rw [List.foldl_cons, encl_fold l, encl_ins]; simp only [enc, List.length_append]; omega
theorem encl_rev : ∀ l : List Int, (enc l.reverse).length = (enc l).length
  | [] => rfl
  | x :: l => by
    rw [List.reverse_cons, enc_append, List.length_append, encl_rev l]; simp only [enc, List.length_append, List.length_nil]; omega
theorem encl_nrm (l : List Int) : (enc (nrm l)).length = (enc (flat l)).length := by
  unfold nrm ordL ordR; rw [encl_rev, encl_fold]; simp [enc]
theorem decU_ascii : ∀ n : Fin 128, decU (n.1 : Int) = [(n.1 : Int)] := by decide +kernel
theorem decU_bad : decU 65533 = [65533] := by decide +kernel
theorem dec_len6 (c : Int) (t : List Int) (hc : 0 ≤ c ∧ c ≤ 255) (hB : Bytes t) : (enc (decU (one1 c t).1)).length ≤ 6 * (one1 c t).2.1.toNat := by
  have hw := one1_width c t; obtain ⟨h1, h2⟩ := Bkg.one1_good c t hc hB; obtain ⟨r, hr⟩ : ∃ r, r = (one1 c t).1 := ⟨_, rfl⟩; obtain ⟨n, hn⟩ : ∃ n, n = (one1 c t).2.1.toNat := ⟨_, rfl⟩; rw [← hr, ← hn] at h2; rw [← hr] at h1 ⊢; rw [← hn]; (have hn1 : 1 ≤ n := by omega); (have hn2 : n ≤ 1 + t.length := by omega); by_cases hb : r = 65533
  · rw [hb, decU_bad]; (have : (enc [65533]).length = 3 := by decide); omega
  · have h3 := h2 hb; (have h4 : (encv r).length = n := by rw [h3, List.length_take, List.length_cons]; omega); have hv := h1; simp only [vld, decide_eq_true_eq] at hv; by_cases ha : r < 128
    · have e := decU_ascii ⟨r.toNat, by omega⟩; simp only at e; rw [show ((r.toNat : Nat) : Int) = r by omega] at e; rw [e]; simp only [enc, enc1, fixr, h1, if_true, List.append_nil]; omega
    · have h5 : 2 ≤ (encv r).length := by
        unfold encv; rw [if_neg ha]; split
        · simp
        · split <;> simp
      have hr3 := Oa.dec_len3 r (by constructor <;> omega); have h6 := (enc_len (decU r)).2; omega
theorem flat_len6 : ∀ (N : Nat) (b : List Int), b.length ≤ N → Bytes b → (enc (flat (rns b))).length ≤ 6 * b.length
  | _, [], _, _ => by rw [rns_nil]; simp [flat, enc]
  | 0, c :: t, h, _ => by simp at h
  | N + 1, c :: t, h, hB => by
    have hd := Ux.drop_lt c t; have ih := flat_len6 N ((c :: t).drop (one1 c t).2.1.toNat) (by simp only [List.length_cons] at h; omega) (fun x hx => hB x (List.mem_of_mem_drop hx)); have h9 := dec_len6 c t (hB c (List.mem_cons_self ..)) (fun x hx => hB x (List.mem_cons_of_mem _ hx)); have hw := one1_width c t; rw [rns_cons, flat_cons, enc_append, List.length_append]; rw [List.length_drop] at ih; simp only [List.length_cons] at ih ⊢; omega
theorem nfd_len6 (a : List Int) (ha : Bytes a) : (nfd a).length ≤ 6 * a.length := by
  unfold nfd; rw [encl_nrm]; exact flat_len6 _ a (Nat.le_refl _) ha
def RawK (b : List Int) (x : SW) : Prop := ∃ s e : Nat, x.f1.f2 = s ∧ x.f1.f3 = e ∧ s < e ∧ e ≤ b.length ∧ x.f0 = keyS ((b.take e).drop s)
theorem rawK_of {b : List Int} (hB : Bytes b) {l : List SG} (hF : FillO b 0 false l) (p : Nat × Nat) (h1 : p.1 < p.2) (h2 : p.2 ≤ l.length) : RawK b (wordOf l p) := by
  obtain ⟨s, e, q1, q2, q3, q4, q5, -⟩ := keyR_raw hB hF p.1 p.2 h1 h2; have g1 : gAt l p.1 = l[p.1]'(by omega) := gAt_eq _; have g2 : gAt l (p.2 - 1) = l[p.2 - 1]'(by omega) := gAt_eq _; exact ⟨s, e, by simp only [wordOf, g1]; exact q1, by simp only [wordOf, g2]; exact q2, q3, q4, q5⟩
def Alk (a b : List Int) (L M : List SW) : Prop := M.length = L.length ∧ ∀ i (h : i < L.length) (h2 : i < M.length), L[i].f0 = M[i].f0 ∧ L[i].f1.f0 = M[i].f1.f0 ∧ L[i].f1.f1 = M[i].f1.f1 ∧ RawK a L[i] ∧ RawK b M[i]
theorem alk_of {a b : List Int} (hA : Bytes a) (hB : Bytes b) {l m : List SG} (hl : FillO a 0 false l) (hm : FillO b 0 false m) (h : l.map (·.f0) = m.map (·.f0)) : Alk a b (wordsF l) (wordsF m) := by
  have hA2 := runsT_apart (l.map (·.f0)); (have hlen : l.length = m.length := by have := congrArg List.length h; simpa using this); have e1 : wordsF l = (runsT (l.map (·.f0))).map (wordOf l) := rfl; (have e2 : wordsF m = (runsT (l.map (·.f0))).map (wordOf m) := by rw [h]; rfl); rw [e1, e2]; rw [List.length_map] at hA2; obtain ⟨P, hP⟩ : ∃ P, P = runsT (l.map (·.f0)) := ⟨_, rfl⟩; rw [← hP] at hA2 ⊢; refine ⟨by simp, fun i h1 h2 => ?_⟩; (have hiP : i < P.length := by rw [List.length_map] at h1; exact h1); have hp := Apart.mem hA2 P[i] (List.getElem_mem hiP); simp only [List.getElem_map]; refine ⟨?_, rfl, rfl, rawK_of hA hl _ hp.2.1 hp.2.2, rawK_of hB hm _ hp.2.1 (by omega)⟩; simp only [wordOf, h]
theorem wordsG (b : List Int) (hB : Bytes b) (hl : b.length ≤ 10000000) (hs : sizes ((cutS (full b)).map (·.f0)) ≤ 13000000) :
    words_Words.f b 64 = some (if (goodS 64 (cutS (full b))).2 = false then (wordsF (cutS (full b)), 0) else ([], 6)) := by
  (have e1 : seg_Split.f b 64 = some (splitF 64 b) := by unfold seg_Split.f; rw [if_pos ⟨Sgr.bytesB_mk hB, by omega⟩]); have e := split_cut 64 b hB (by omega) (by omega) (by omega); have hln := (Sgr.fsize b hB (by omega)).2; unfold words_Words.f; rw [e1, e]; simp only [Option.bind_some]
  cases hg : (goodS 64 (cutS (full b))).2 with
  | true => rfl
  | false =>
    rw [goodS_all 64 _ hg]; simp only [errOf, Bool.false_eq_true, if_false, if_true]; unfold words_Join.f; rw [if_pos ⟨hs, by omega⟩]
    rfl
end Go.Proofs.YthffpkdadffinaaDoor.Wsm
namespace Go.Proofs.YthffpkdadffinaaDoor.Wc
set_option linter.unusedVariables false
set_option linter.unusedSimpArgs false
open Go.Proofs.YthffpkdadffinaaDoor.Ux (Bytes full bnd st cont one1)
open Go.Proofs.YthffpkdadffinaaDoor.Ve (opn)
open Go.Proofs.YthffpkdadffinaaDoor.Vd (decU)
open Go.Proofs.YthffpkdadffinaaDoor.Vef (foldU allB allB_at fold_out)
open Go.Proofs.YthffpkdadffinaaDoor.Va (cls)
open Go.Proofs.YthffpkdadffinaaDoor.Ot (rns)
open Go.Proofs.YthffpkdadffinaaDoor.Bk (ful ful_nil ful_cons full_ful)
open Go.RowKit YthffpkdadffinaaDoorW.PrintWords X Oa Vp0 Sga Sgb Sgp Sgt Sgv Sgw Wa Wb Na
def RR (x y : Int) : Prop := x = y ∨ (97 ≤ x ∧ x ≤ 122 ∧ y = x - 32)
inductive F2 : List Int → List Int → Prop
  | nil : F2 [] []
  | cons {x y : Int} {a b : List Int} : RR x y → F2 a b → F2 (x :: a) (y :: b)
def shS (s : Int) (x : SG) : SG := ⟨x.f0, x.f1 + s, x.f2 + s⟩
def shP (s : Int) (x : SP) : SP := ⟨x.f0, x.f1 + s, x.f2⟩
theorem ful_shift (s : Int) : ∀ (N : Nat) (b : List Int) (p : Int), b.length ≤ N → ful b (p + s) = (ful b p).map (shP s)
  | _, [], p, _ => by rw [ful_nil, ful_nil]; rfl
  | 0, c :: t, p, h => by simp at h
  | N + 1, c :: t, p, h => by
    have hlt := Ux.drop_lt c t; have ih := ful_shift s N ((c :: t).drop (one1 c t).2.1.toNat) (p + (one1 c t).2.1) (by simp only [List.length_cons] at h; omega); rw [ful_cons, ful_cons, List.map_cons, ← ih]; rw [show p + s + (one1 c t).2.1 = p + (one1 c t).2.1 + s by omega]
    rfl
theorem cutR_shift (s : Int) : ∀ (t : List SP) (rs : List Int) (a e : Int), cutR (t.map (shP s)) rs (a + s) (e + s) = (cutR t rs a e).map (shS s)
  | [], rs, a, e => rfl
  | p :: t, rs, a, e => by
    have ih := cutR_shift s t; rw [List.map_cons, cutR, cutR]; (have e1 : (shP s p).f1 + (shP s p).f2 = p.f1 + p.f2 + s := by unfold shP; simp only; omega); rw [e1]; (show (if opn p.f0 = true then ⟨txt rs, a + s, e + s⟩ :: cutR (t.map (shP s)) [p.f0] (p.f1 + s) (p.f1 + p.f2 + s) else cutR (t.map (shP s)) (rs ++ [p.f0]) (a + s) (p.f1 + p.f2 + s)) = _); rw [ih, ih]; split <;> rfl
theorem cutS_shift (s : Int) (t : List SP) : cutS (t.map (shP s)) = (cutS t).map (shS s) := by
  cases t with
  | nil => rfl
  | cons p t =>
    rw [List.map_cons, cutS, cutS, ← cutR_shift]; (have e1 : (shP s p).f1 + (shP s p).f2 = p.f1 + p.f2 + s := by unfold shP; simp only; omega); rw [e1]
    rfl
theorem cutR_app : ∀ (t u : List SP) (rs : List Int) (a e : Int) (p : SP), opn p.f0 = true → cutR (t ++ p :: u) rs a e = cutR t rs a e ++ cutR u [p.f0] p.f1 (p.f1 + p.f2)
  | [], u, rs, a, e, p, h => by
    (show (if opn p.f0 = true then _ else _) = _); rw [if_pos h]
    rfl
  | q :: t, u, rs, a, e, p, h => by
    rw [List.cons_append, cutR, cutR, cutR_app t u _ _ _ p h, cutR_app t u _ _ _ p h]; split <;> rfl
theorem cutS_app (r s : List SP) (h : ∀ p t, s = p :: t → opn p.f0 = true) : cutS (r ++ s) = cutS r ++ cutS s := by
  cases s with
  | nil => simp [cutS]
  | cons p u =>
    cases r with
    | nil => rfl
    | cons q t => exact cutR_app t u _ _ _ p (h p u rfl)
theorem full_beside (a b : List Int) : full (a ++ [32] ++ b) = full a ++ (⟨32, a.length, 1⟩ : SP) :: (full b).map (shP (a.length + 1)) := by
  have h2 : (Ux.dc (a ++ [32]) 0).2.1 = [] := by
    have h1 := Ux.dc_rest a 0; rw [Ux.dc_append, Ur.dc_cut _ _ 32 (by decide) h1.2]
  have h3 := Ur.full_snoc a 32 (by decide); have h4 : full (a ++ [32]) = (Ux.dc (a ++ [32]) 0).1 := by unfold Ux.full; rw [h2]; simp [Ux.rest1]
  have h5 : (Ux.dc (a ++ [32]) 0).2.2 = (a.length : Int) + 1 := by
    have h := Ux.dc_len (a ++ [32]) 0; have h1 := Ux.dc_rest a 0; rw [Ux.dc_append, Ur.dc_cut _ _ 32 (by decide) h1.2] at h ⊢; simp at h ⊢; omega
  have h6 : full (a ++ [32] ++ b) = (Ux.dc (a ++ [32]) 0).1 ++ ful b ((a.length : Int) + 1) := by
    unfold Ux.full ful; rw [Ux.dc_append, h2, h5, List.nil_append, List.append_assoc]
  rw [h6, ← h4, h3, show (a.length : Int) + 1 = 0 + ((a.length : Int) + 1) by omega, ful_shift _ b.length b 0 (Nat.le_refl _), ← full_ful]; simp
theorem opn_32 : opn 32 = true := by decide +kernel
theorem segs_beside (a b : List Int) (h : ∀ x t, rns b = x :: t → opn x = true) : cutS (full (a ++ [32] ++ b)) = cutS (full a) ++ (⟨txt [32], a.length, a.length + 1⟩ : SG) :: (cutS (full b)).map (shS (a.length + 1)) := by
  rw [full_beside, cutS_app _ _ (fun p t e => by rw [← (List.cons.inj e).1]; exact opn_32)]; congr 1; have e : (⟨32, a.length, 1⟩ : SP) :: (full b).map (shP (a.length + 1)) = [(⟨32, a.length, 1⟩ : SP)] ++ (full b).map (shP (a.length + 1)) := rfl; rw [e, cutS_app, cutS_shift]
  · rfl
  · intro p t e
    cases hb : full b with
    | nil => rw [hb] at e; cases e
    | cons q u =>
      rw [hb] at e; have h1 := h q.f0 (u.map (·.f0)) (by unfold rns; rw [hb]; rfl); rw [← (List.cons.inj e).1]; exact h1
theorem goodS_app (lim : Int) : ∀ (l m : List SG), (goodS lim l).2 = false → goodS lim (l ++ m) = (l ++ (goodS lim m).1, (goodS lim m).2)
  | [], m, _ => rfl
  | s :: l, m, h => by
    rw [goodS] at h; rw [List.cons_append, goodS]; split
    · rename_i hl; rw [if_pos hl] at h; cases h
    · rename_i hl; rw [if_neg hl] at h; rw [goodS_app lim l m h]
      rfl
theorem goodS_shift (lim s : Int) : ∀ l : List SG, goodS lim (l.map (shS s)) = ((goodS lim l).1.map (shS s), (goodS lim l).2)
  | [] => rfl
  | x :: l => by
    rw [List.map_cons, goodS, goodS, goodS_shift lim s l]; (show (if lim < (lenF x.f0 : Int) then _ else _) = _); split <;> rfl
end Go.Proofs.YthffpkdadffinaaDoor.Wc
namespace Go.Proofs.YthffpkdadffinaaDoor.Wbs
set_option linter.unusedVariables false
set_option linter.unusedSimpArgs false
open Go.Proofs.YthffpkdadffinaaDoor.Ux (Bytes full)
open Go.Proofs.YthffpkdadffinaaDoor.Ot (rns)
open Go.Proofs.YthffpkdadffinaaDoor.Ve (opn)
open Go.RowKit YthffpkdadffinaaDoorW.PrintWords Ev0 X Va Vd Oa Ob Vp0 Sga Sgb Sgd Sgp Sgq Sgt Sgv Sgw Wa Wb Wc Wd Wg Wsm
def shW (N d : Int) (x : SW) : SW := ⟨x.f0, ⟨x.f1.f0 + N, x.f1.f1 + N, x.f1.f2 + d, x.f1.f3 + d⟩⟩
theorem gAt_left (l m : List SG) (i : Nat) (h : i < l.length) : gAt (l ++ m) i = gAt l i := by
  rw [gAt_eq (by rw [List.length_append]; omega), gAt_eq h, List.getElem_append_left h]
theorem gAt_right (l : List SG) (s : SG) (m : List SG) (d : Int) (i : Nat) (h : i < m.length) : gAt (l ++ s :: m.map (shS d)) (i + (l.length + 1)) = shS d (gAt m i) := by
  (have e : l ++ s :: m.map (shS d) = (l ++ [s]) ++ m.map (shS d) := by simp); (have hl : (l ++ [s]).length = l.length + 1 := by simp); rw [e, gAt_eq (by simp; omega), gAt_eq h, List.getElem_append_right (by omega)]; simp only [hl, Nat.add_sub_cancel, List.getElem_map]
theorem words_l (l m : List SG) (s : SG) (d : Int) (hf : (l ++ s :: List.map (shS d) m).map (·.f0) = l.map (·.f0) ++ s.f0 :: m.map (·.f0)) (p : Nat × Nat) (h1 : p.1 < p.2) (h2 : p.2 ≤ l.length) :
    wordOf (l ++ s :: List.map (shS d) m) p = wordOf l p := by
  (have k1 : keyR (l.map (·.f0) ++ s.f0 :: m.map (·.f0)) p.1 p.2 = keyR (l.map (·.f0)) p.1 p.2 := by unfold keyR; rw [catR_left _ _ _ _ (by rw [List.length_map]; exact h2)]); unfold wordOf; rw [hf, k1, gAt_left _ _ _ (by omega), gAt_left _ _ _ (by omega)]
theorem words_r (l m : List SG) (s : SG) (d N : Int) (hN : N = (l.length : Int) + 1) (hf : (l ++ s :: List.map (shS d) m).map (·.f0) = l.map (·.f0) ++ s.f0 :: m.map (·.f0)) (p : Nat × Nat) (h1 : p.1 < p.2) (h2 : p.2 ≤ m.length) :
    wordOf (l ++ s :: List.map (shS d) m) (p.1 + (l.length + 1), p.2 + (l.length + 1)) = shW N d (wordOf m p) := by
  have k1 : keyR (l.map (·.f0) ++ s.f0 :: m.map (·.f0)) (p.1 + (l.length + 1)) (p.2 + (l.length + 1)) = keyR (m.map (·.f0)) p.1 p.2 := by
    have h2 := catR_right (l.map (·.f0) ++ [s.f0]) (m.map (·.f0)) p.1 p.2; simp only [List.length_append, List.length_map, List.length_cons, List.length_nil, Nat.zero_add, List.append_assoc, List.singleton_append] at h2; unfold keyR; rw [h2]
  (have e2 : p.2 + (l.length + 1) - 1 = (p.2 - 1) + (l.length + 1) := by omega); unfold wordOf shW; simp only []; rw [hf, k1, e2, gAt_right _ _ _ _ _ (by omega), gAt_right _ _ _ _ _ (by omega)]; simp only [shS, hN, Int.natCast_add]
  rfl
theorem words_two (l m : List SG) (s : SG) (d N : Int) (hN : N = (l.length : Int) + 1) (hs : kindF s.f0 = 0) (hj : jointF s.f0 = 0) :
    wordsF (l ++ s :: List.map (shS d) m) = wordsF l ++ List.map (shW N d) (wordsF m) := by
  have hf : (l ++ s :: List.map (shS d) m).map (·.f0) = l.map (·.f0) ++ s.f0 :: m.map (·.f0) := by
    rw [List.map_append, List.map_cons, List.map_map]
    rfl
  have hA := runsT_apart (l.map (·.f0)); have hB := runsT_apart (m.map (·.f0)); have e1 := runsT_beside (l.map (·.f0)) (m.map (·.f0)) s.f0 hs hj; rw [← hf] at e1; rw [List.length_map] at hA hB e1; (have g : ∀ l : List SG, wordsF l = (runsT (l.map (·.f0))).map (wordOf l) := fun _ => rfl); rw [g, g l, g m, e1]; generalize runsT (l.map (·.f0)) = P at hA ⊢; generalize runsT (m.map (·.f0)) = Q at hB ⊢; rw [List.map_append, List.map_map, List.map_map]; (have a1 : List.map (wordOf (l ++ s :: List.map (shS d) m)) P = List.map (wordOf l) P := List.map_congr_left fun p hp => words_l l m s d hf p (Apart.mem hA p hp).2.1 (Apart.mem hA p hp).2.2); rw [a1]; refine congrArg _ ?_; exact List.map_congr_left fun p hp => words_r l m s d N hN hf p (Apart.mem hB p hp).2.1 (Apart.mem hB p hp).2.2
theorem blank_kind : kindF (txt [32]) = 0 := by decide +kernel
theorem blank_joint : jointF (txt [32]) = 0 := by decide +kernel
theorem sizes_of (b : List Int) (hB : Bytes b) : sizes ((cutS (full b)).map (·.f0)) ≤ 6 * b.length := by
  rw [Wt.cut_map, Wt.catB_len, cutTS_cat, txt_nfd, str_size (nfd_byte b)]; exact nfd_len6 b hB
theorem blank_good (m : List SG) (x y : Int) : goodS 64 ((⟨txt [32], x, y⟩ : SG) :: m) = ((⟨txt [32], x, y⟩ : SG) :: (goodS 64 m).1, (goodS 64 m).2) := by
  rw [goodS, if_neg]; show ¬ (64 : Int) < (lenF (txt [32]) : Int)
  decide +kernel
theorem beside_all (a b : List Int) (hA : Bytes a) (hB : Bytes b) (hla : a.length ≤ 1048576) (hlb : b.length ≤ 1048576) (h : ∀ x t, rns b = x :: t → opn x = true) :
    ∃ L e M f Bo g, words_Words.f a 64 = some (L, e) ∧ words_Words.f b 64 = some (M, f) ∧ words_Words.f (a ++ [32] ++ b) 64 = some (Bo, g) ∧ L.length ≤ 1048576 ∧ M.length ≤ 1048576 ∧ Bo.length ≤ 2097153 ∧
      (e = 0 → f = 0 → g = 0 ∧ (∃ N : Int, Bo = L ++ M.map (shW N (a.length + 1))) ∧ ∀ i (h : i < M.length), RawK b M[i]) := by
  have hab : Bytes (a ++ [32] ++ b) := fun x hx => by
    rcases List.mem_append.1 hx with hx | hx
    · rcases List.mem_append.1 hx with hx | hx
      · exact hA x hx
      · rw [List.mem_singleton.1 hx]; exact ⟨by decide, by decide⟩
    · exact hB x hx
  (have hlen : (a ++ [32] ++ b).length = a.length + 1 + b.length := by simp; omega); have za := sizes_of a hA; have zb := sizes_of b hB; have zc := sizes_of _ hab; rw [hlen] at zc; have ea := wordsG a hA (by omega) (by omega); have eb := wordsG b hB (by omega) (by omega); have ec := wordsG _ hab (by omega) (by omega); have la := Nat.le_trans (Wt.wordsF_len (cutS (full a))) (Sgr.fsize a hA (by omega)).2; have lb := Nat.le_trans (Wt.wordsF_len (cutS (full b))) (Sgr.fsize b hB (by omega)).2; have lc := Nat.le_trans (Wt.wordsF_len (cutS (full (a ++ [32] ++ b)))) (Sgr.fsize _ hab (by omega)).2; rw [hlen] at lc
  have hc : ∃ Bo g, words_Words.f (a ++ [32] ++ b) 64 = some (Bo, g) ∧ Bo.length ≤ 2097153 := by
    cases hc : (goodS 64 (cutS (full (a ++ [32] ++ b)))).2 with
    | true => rw [hc] at ec; exact ⟨_, _, ec, Nat.zero_le _⟩
    | false => rw [hc] at ec; exact ⟨_, _, ec, Nat.le_trans lc (by omega)⟩
  cases ha : (goodS 64 (cutS (full a))).2 with
  | true =>
    rw [ha] at ea; obtain ⟨Bo, g, hc1, hc2⟩ := hc
    cases hb : (goodS 64 (cutS (full b))).2 with
    | true => rw [hb] at eb; exact ⟨[], 6, [], 6, Bo, g, ea, eb, hc1, Nat.zero_le _, Nat.zero_le _, hc2, fun h1 => absurd h1 (by decide)⟩
    | false => rw [hb] at eb; exact ⟨[], 6, _, 0, Bo, g, ea, eb, hc1, Nat.zero_le _, Nat.le_trans lb hlb, hc2, fun h1 => absurd h1 (by decide)⟩
  | false =>
    rw [ha] at ea
    cases hb : (goodS 64 (cutS (full b))).2 with
    | true =>
      obtain ⟨Bo, g, hc1, hc2⟩ := hc; rw [hb] at eb; exact ⟨_, 0, [], 6, Bo, g, ea, eb, hc1, Nat.le_trans la hla, Nat.zero_le _, hc2, fun _ h1 => absurd h1 (by decide)⟩
    | false =>
      have hs := segs_beside a b h
      have hg : (goodS 64 (cutS (full (a ++ [32] ++ b)))).2 = false := by
        rw [hs, goodS_app 64 _ _ ha, blank_good, goodS_shift]; exact hb
      rw [hg] at ec; rw [hb] at eb; refine ⟨_, 0, _, 0, _, 0, ea, eb, ec, Nat.le_trans la hla, Nat.le_trans lb hlb, Nat.le_trans lc (by omega), fun _ _ => ⟨rfl, ⟨((cutS (full a)).length : Int) + 1, ?_⟩, fun i h => ((alk_of hB hB (fillO_all b) (fillO_all b) rfl).2 i h h).2.2.2.2⟩⟩; rw [hs]; exact words_two _ _ _ _ _ rfl blank_kind blank_joint
end Go.Proofs.YthffpkdadffinaaDoor.Wbs
namespace Go.Proofs.YthffpkdadffinaaDoor.X
open Go.RowKit YthffpkdadffinaaDoorW.PrintWords YthffpkdadffinaaDoorW.PrintLast YthffpkdadffinaaDoorW.PrintMore
attribute [local go_sem] max2_int min2_int max_two min_two max_three min_three max_four min_four   
set_option linter.unusedVariables false
set_option linter.unusedSimpArgs false
def tremalaw13_keys.l0 : Nat → List ByteArray → List (S60) → Int → Int → Option (List ByteArray)
 | 0, _, _, _, _ => none
 | k + 1, x3, x6, x7, x8 => if x8 < x7 then (if 0 ≤ x8 then (if x8 < (x6.length : Int) then (if x3.length < 8796093022208 then (tremalaw13_keys.l0 k (x3 ++ [(rd_T60 x6 x8).f0]) x6 x7 (wrap64 (x8 + 1))) else (none)) else (none)) else (none)) else (some x3)
def tremalaw13_keys.f (k : Nat) (l0 : List (S60)) : Option (List ByteArray) := tremalaw13_keys.l0 k ([] : List ByteArray) l0 (l0.length : Int) 0
set_option maxHeartbeats 8000000 in
set_option maxRecDepth 100000 in
theorem tremalaw13_keys.calls (k : Nat) (A0 : Option Addr) (c0 : Nat) (l0 : List (S60)) (r : List ByteArray) (w : World) (hr0 : Kd.C k60 w A0 l0.length l0) (hc0 : l0.length ≤ c0) (h : tremalaw13_keys.f k l0 = some r) :
  Calls Tryd.prog 38 #[.slice A0 l0.length c0] w fun e w' => ∃ v0_ : Value, e = .returned (v0_) ∧ Kd.R Kd.string 9 w' w.heap.size (fun _ => True) v0_ r ∧ Below w.heap.size w w' := by
 have hu60 := Tryd.underlying60; have HR0 := Aside0.mk hr0; have HC0 := Aside0.mk hc0; clear hr0 hc0; have HB := Aside0.mk (Below.refl w.heap.size w); have H : (tremalaw13_keys.l0 k ([] : List ByteArray) l0 (l0.length : Int) 0) = some r := h; clear h; have H' := Aside0.mk H; clear H; go_enter Tryd.func38, Tryd.ntmps38; go_wp2; go_loopg [3, 8] k (fun kq v3 v8 w' => ∃ (x3_1 : List ByteArray) (x8_1 : Int), v8 = .int .i64 x8_1 ∧ Aside0 (tremalaw13_keys.l0 kq x3_1 l0 (l0.length : Int) x8_1 = some r) ∧ Aside0 (kq ≤ k) ∧ Aside0 (Kd.R Kd.string 9 w' w.heap.size (fun _ => True) v3 x3_1) ∧ Aside0 (Below w.heap.size w w'))
 case atStart => exact ⟨(([] : List ByteArray)), (0), (by first | rfl | (simp; done) | (simp [*]; done)), H', ⟨Nat.le_refl _⟩, ⟨by first | exact Kd.R_nil _ _ _ _ _ | exact Kd.N_nil _ _ _ _ _ | exact Kd.V_nil _ _ _ _ _ | exact Kd.Q_nil _ _ _ _ _ | exact Kd.S_nil _ _ _ _ _⟩, ⟨by repeat (first | (with_reducible first | exact HB.out | apply below_alloc | apply pw_below_drewN | apply below_drew1) | exact HB.out)⟩⟩
 case round =>
  clear H'; obtain ⟨x3_1, x8_1, rfl, HA, HK1, HO_3, HB⟩ := hrel
  cases gk with
  | zero => exact absurd HA.out (by simp [tremalaw13_keys.l0])
  | succ k1 =>
   have H := HA.out; clear HA; simp only [tremalaw13_keys.l0] at H; by_cases c2 : x8_1 < (l0.length : Int)
   ·rw [if_pos c2] at H; have c2b0 : decide (x8_1 < (l0.length : Int)) = true := decide_eq_true c2; clear c2; by_cases c3 : 0 ≤ x8_1
    ·rw [if_pos c3] at H; have c3b0 : decide (0 ≤ x8_1) = true := decide_eq_true c3; clear c3; by_cases c4 : x8_1 < (l0.length : Int)
     ·rw [if_pos c4] at H; have c4b0 : decide (x8_1 < (l0.length : Int)) = true := decide_eq_true c4; clear c4; by_cases c5 : x3_1.length < 8796093022208
      ·rw [if_pos c5] at H; have LMc5 := Aside0.mk c5; clear c5; obtain ⟨y496, hy496⟩ : ∃ y_ : List ByteArray, y_ = (x3_1 ++ [(rd_T60 l0 x8_1).f0]) := ⟨_, rfl⟩; (replace H : (tremalaw13_keys.l0 k1 y496 l0 (l0.length : Int) (wrap64 (x8_1 + 1))) = some r := by first | (rw [hy496]; with_reducible exact H) | (have H2_ := (Option.bind_some _ _).symm.trans H; rw [hy496]; with_reducible exact H2_) | (have H2_ := (Option.bind_some _ _).symm.trans H; with_reducible exact H2_) | with_reducible exact H | (rw [hy496]; exact H) | exact H); have Ny496 := Aside0.mk hy496; clear hy496; have H' := Aside0.mk H; clear H; have p494 : 0 ≤ (x8_1 : Int) := of_decide_eq_true (by first | (with_reducible assumption) | assumption); have q494 : x8_1 < (l0.length : Int) := of_decide_eq_true (by first | (with_reducible assumption) | assumption); obtain ⟨ad494, e494, hx494_0, hx494_1, hx494_2, hx494_3, hx494_4⟩ := at_T60 HR0.out x8_1 p494 q494; cases e494; replace hx494_0 := (HB.out.cell (World.block_lt_of_cell? w _ hx494_0)).trans hx494_0; replace hx494_1 := (HB.out.cell (World.block_lt_of_cell? w _ hx494_1)).trans hx494_1; replace hx494_2 := (HB.out.cell (World.block_lt_of_cell? w _ hx494_2)).trans hx494_2; replace hx494_3 := (HB.out.cell (World.block_lt_of_cell? w _ hx494_3)).trans hx494_3; replace hx494_4 := (HB.out.cell (World.block_lt_of_cell? w _ hx494_4)).trans hx494_4; replace p494 := eq_true p494; replace q494 := eq_true q494; go_wp2_with (first | ((with_reducible refine gate_dst (N := 5) rfl ?_); refine box_event ?hg (N := 5) ?hd (cs := #[.string (⟨#[]⟩ : ByteArray), .int .i64 0, .int .i64 0, .int .i64 0, .int .i64 0]) (t := 60) ?hr ?_; (case hd => rfl); (case hg => rfl); (case hr => first | (go_simp; done) | (go_simp; rfl)); intro gb495 hg w6 hbox hb; have n0_ := Aside0.mk (Kd.R_below (by (with_reducible repeat (first | apply Kd.R_alloc | apply Kd.R_drewN | apply Kd.R_drew)); exact HO_3.out) hb); have n1_ := Aside0.mk (below_step (by repeat (first | (with_reducible first | exact HB.out | apply below_alloc | apply pw_below_drewN | apply below_drew1) | exact HB.out)) hb); have n2_ := Aside0.mk (hbox); have n3_ := Aside0.mk ((by rw [hg]; exact (below_size (by repeat (first | (with_reducible first | exact HB.out | apply below_alloc | apply pw_below_drewN | apply below_drew1) | exact HB.out))) : w.heap.size ≤ gb495)); have n4_ := Aside0.mk ((by rw [hg]; exact (below_size (by repeat (first | (with_reducible first | exact HB.out | apply below_alloc | apply pw_below_drewN | apply below_drew1) | exact HB.out))) : w.heap.size ≤ gb495)); clear HO_3; clear HB; have HO_3 := n0_; have HB := n1_; have BK495 := n2_; have GW495 := n3_; have GE495 := n4_; clear n0_ n1_ n2_ n3_ n4_; clear hb hbox hg; have hcz7_0 : w6.cell? ⟨gb495, 0, none⟩ = some (.string (⟨#[]⟩ : ByteArray)) := (blk_cell BK495.out 0).trans rfl; have hcz7_1 : w6.cell? ⟨gb495, 1, none⟩ = some (.int .i64 0) := (blk_cell BK495.out 1).trans rfl; have hcz7_2 : w6.cell? ⟨gb495, 2, none⟩ = some (.int .i64 0) := (blk_cell BK495.out 2).trans rfl; have hcz7_3 : w6.cell? ⟨gb495, 3, none⟩ = some (.int .i64 0) := (blk_cell BK495.out 3).trans rfl; have hcz7_4 : w6.cell? ⟨gb495, 4, none⟩ = some (.int .i64 0) := (blk_cell BK495.out 4).trans rfl; have hfz7_0 := blk_frozen BK495.out 0; have hfz7_1 := blk_frozen BK495.out 1; have hfz7_2 := blk_frozen BK495.out 2; have hfz7_3 := blk_frozen BK495.out 3; have hfz7_4 := blk_frozen BK495.out 4) | ((with_reducible refine gate_builtin (b := .append) (xs := #[.tmp 12, .tmp 15]) rfl ?_); at_builtin; refine Kd.R_append Kd.string (w0 := w) w.heap.size rfl (.tmp 12) (.tmp 15) 64 9 (.string ⟨#[]⟩) 16 rfl Tryd.underlying64 info9 rfl (by decide) (by omega) u3 x3_1 ((rd_T60 l0 x8_1).f0) [.string ((rd_T60 l0 x8_1).f0)] (fun _ => True) (fun _ => False) rfl (by first | (go_simp; done) | (go_simp; rfl)) ?aP (fun _ hk => hk.elim) ?aF ?aO ?aB ?aS ?aL ?_; (case aP => exact rfl); (case aB => exact (by repeat (first | (with_reducible first | exact HB.out | apply below_alloc | apply pw_below_drewN | apply below_drew1 | refine below_set ?_ GE495.out) | exact HB.out))); (case aF => exact (fun _ _ => trivial)); (case aO => exact (by (with_reducible repeat (first | apply Kd.R_alloc | apply Kd.R_drewN | apply Kd.R_drew)); exact Kd.R_mono (Kd.R_far (p := ⟨gb495, 4, none⟩) (Kd.R_far (p := ⟨gb495, 3, none⟩) (Kd.R_far (p := ⟨gb495, 2, none⟩) (Kd.R_far (p := ⟨gb495, 1, none⟩) (Kd.R_far (p := ⟨gb495, 0, none⟩) (Kd.R_types HO_3.out BK495.out (by decide)) (fun _ hk => hk.2) (.string ((rd_T60 l0 x8_1).f0))) (fun _ hk => hk.2) (.int .i64 ((rd_T60 l0 x8_1).f1.f0))) (fun _ hk => hk.2) (.int .i64 ((rd_T60 l0 x8_1).f1.f1))) (fun _ hk => hk.2) (.int .i64 ((rd_T60 l0 x8_1).f1.f2))) (fun _ hk => hk.2) (.int .i64 ((rd_T60 l0 x8_1).f1.f3))) (fun _ hk => trivial))); (case aS => exact (below_size (by repeat (first | (with_reducible first | exact HB.out | apply below_alloc | apply pw_below_drewN | apply below_drew1 | refine below_set ?_ GE495.out) | exact HB.out)))); (case aL => have := LMc5.out; omega); intro v497 w8 ho hb hg hat; rw [← Ny496.out] at ho; have n0_ := Aside0.mk (blk_grown (g := gb495) (o := .cells #[.string ((rd_T60 l0 x8_1).f0), .int .i64 ((rd_T60 l0 x8_1).f1.f0), .int .i64 ((rd_T60 l0 x8_1).f1.f1), .int .i64 ((rd_T60 l0 x8_1).f1.f2), .int .i64 ((rd_T60 l0 x8_1).f1.f3)] 60 (0, 0)) (by (with_reducible repeat (first | refine blk_drewN ?_ _ | refine blk_drew ?_ | refine blk_alloc ?_ _)); refine blk_put (cs := #[.string ((rd_T60 l0 x8_1).f0), .int .i64 ((rd_T60 l0 x8_1).f1.f0), .int .i64 ((rd_T60 l0 x8_1).f1.f1), .int .i64 ((rd_T60 l0 x8_1).f1.f2), .int .i64 0]) ?_ 4 _ rfl; (with_reducible repeat (first | refine blk_drewN ?_ _ | refine blk_drew ?_ | refine blk_alloc ?_ _)); refine blk_put (cs := #[.string ((rd_T60 l0 x8_1).f0), .int .i64 ((rd_T60 l0 x8_1).f1.f0), .int .i64 ((rd_T60 l0 x8_1).f1.f1), .int .i64 0, .int .i64 0]) ?_ 3 _ rfl; (with_reducible repeat (first | refine blk_drewN ?_ _ | refine blk_drew ?_ | refine blk_alloc ?_ _)); refine blk_put (cs := #[.string ((rd_T60 l0 x8_1).f0), .int .i64 ((rd_T60 l0 x8_1).f1.f0), .int .i64 0, .int .i64 0, .int .i64 0]) ?_ 2 _ rfl; (with_reducible repeat (first | refine blk_drewN ?_ _ | refine blk_drew ?_ | refine blk_alloc ?_ _)); refine blk_put (cs := #[.string ((rd_T60 l0 x8_1).f0), .int .i64 0, .int .i64 0, .int .i64 0, .int .i64 0]) ?_ 1 _ rfl; (with_reducible repeat (first | refine blk_drewN ?_ _ | refine blk_drew ?_ | refine blk_alloc ?_ _)); refine blk_put (cs := #[.string (⟨#[]⟩ : ByteArray), .int .i64 0, .int .i64 0, .int .i64 0, .int .i64 0]) ?_ 0 _ rfl; (with_reducible repeat (first | refine blk_drewN ?_ _ | refine blk_drew ?_ | refine blk_alloc ?_ _)); exact BK495.out) hg (Kd.R_ne HO_3.out BK495.out (by decide))); have n1_ := Aside0.mk (hb); have n2_ := Aside0.mk (ho); clear BK495; clear HB; clear HO_3; have BK495 := n0_; have HB := n1_; have HO498 := n2_; clear n0_ n1_ n2_; clear ho hb hg hat))
       go_roundg k1
       case measure => have := HK1.out; omega
       case rel => exact ⟨(y496), (wrap64 (x8_1 + 1)), (by first | rfl | (simp; done) | (simp [*]; done)), H', ⟨by have := HK1.out; omega⟩, ⟨by (with_reducible repeat (first | apply Kd.R_alloc | apply Kd.R_drewN | apply Kd.R_drew)); exact HO498.out⟩, ⟨by repeat (first | (with_reducible first | exact HB.out | apply below_alloc | apply pw_below_drewN | apply below_drew1 | refine below_set ?_ GE495.out) | exact HB.out)⟩⟩
      ·rw [if_neg c5] at H; exact absurd H (by simp)
     ·rw [if_neg c4] at H; exact absurd H (by simp)
    ·rw [if_neg c3] at H; exact absurd H (by simp)
   ·rw [if_neg c2] at H; have c2b0 : decide (x8_1 < (l0.length : Int)) = false := decide_eq_false c2; clear c2; obtain rfl := Option.some.inj H; go_wp2; go_ret; exact ⟨_, by first | rfl | (simp [errW_none, errW_some] <;> rfl) | (simp [*, errW_none, errW_some] <;> rfl), by (with_reducible repeat (first | apply Kd.R_alloc | apply Kd.R_drewN | apply Kd.R_drew)); exact HO_3.out, by repeat (first | (with_reducible first | exact HB.out | apply below_alloc | apply pw_below_drewN | apply below_drew1) | exact HB.out)⟩
end Go.Proofs.YthffpkdadffinaaDoor.X
namespace Go.Proofs.YthffpkdadffinaaDoor.Lwt
set_option linter.unusedVariables false
set_option linter.unusedSimpArgs false
open Go.Proofs.YthffpkdadffinaaDoor.Ux (Bytes full)
open Go.Proofs.YthffpkdadffinaaDoor.Ot (rns)
open Go.Proofs.YthffpkdadffinaaDoor.Ve (opn)
open Go.RowKit YthffpkdadffinaaDoorW.PrintWords Ev0 Hp Fm X Va Oa Vp0 Sga Sgb Sgd Wd Wg Wj
theorem keysEv (L : List SW) (hl : L.length ≤ 100000000) : Ev (fun k => tremalaw13_keys.f k L) (L.map (·.f0)) := by
  unfold tremalaw13_keys.f; have key := ev_range (n := L.length) (F := fun k i => tremalaw13_keys.l0 k ((L.take i.toNat).map (·.f0)) L (L.length : Int) i) (r := L.map (·.f0)) ?_ ?_ 0 (Nat.zero_le _)
  · exact key
  · refine Ev.step (fun k => tremalaw13_keys.l0.eq_2 ..) ?_; simp only [if_neg (Int.lt_irrefl _), Int.toNat_natCast, List.take_length]; exact Ev.now _
  · intro i hi ih; have hw := w64 (i := i) (by omega); refine Ev.step (fun k => tremalaw13_keys.l0.eq_2 ..) ?_; (have c1 : (i : Int) < (L.length : Int) := by omega); (have c2 : (0 : Int) ≤ (i : Int) := by omega); (have c3 : ((L.take i).map (·.f0)).length < 8796093022208 := by rw [List.length_map, List.length_take]; omega); simp only [if_pos c1, if_pos c2, Int.toNat_natCast, if_pos c3, hw, rdW hi]; simp only [Int.toNat_natCast, List.take_succ_eq_append_getElem hi, List.map_append, List.map_cons, List.map_nil] at ih; exact ih
theorem KeysP (w : World) (A : Option Addr) (n c : Nat) (L : List SW) (hC : kW.C w A n L) (hn : n = L.length) (hc : n ≤ c) (hl : n ≤ 100000000) (X : List ByteArray) (hX : X = L.map (·.f0)) :
    Calls Tryd.prog 38 #[.slice A n c] w fun e w' => ∃ v, e = .returned v ∧ Kd.string.R 9 w' w.heap.size (fun _ => True) v X ∧ Below w.heap.size w w' := by
  subst hn hX; obtain ⟨k, hk⟩ := Ev.rounds (keysEv L hl); exact tremalaw13_keys.calls k A c L _ w hC hc hk
theorem RunesR (w : World) (A : Option Addr) (n c : Nat) (b : List Int) (hC : KB.C w A n b) (hn : n = b.length) (hc : n ≤ c) (hB : Bytes b) (hl : n ≤ 1000000000) :
    Calls Tryd.prog 36 #[.slice A n c] w fun e w' => ∃ v, e = .returned v ∧ Kd.R (Kd.int .i32) 21 w' w.heap.size (fun _ => True) v (rns b) ∧ Below w.heap.size w w' := by
  subst hn; obtain ⟨k, hk⟩ := Ev.rounds (Ot.runesEv b hB hl); exact tremaref01_Runes.calls k A c b _ w hC hc hk
theorem ROpensR (w : World) (x : Int) (hx : I32 x) : Calls Tryd.prog 37 #[.int .i32 x] w fun e w' => e = .returned (.bool (opn x)) ∧ Below w.heap.size w w' := by
  obtain ⟨k, hk⟩ := Ev.rounds (Vu.refopn x hx); exact tremaref02_Opens.calls k x _ w hk
end Go.Proofs.YthffpkdadffinaaDoor.Lwt
namespace Go.Proofs.YthffpkdadffinaaDoor.Lwb
set_option linter.unusedVariables false
set_option linter.unusedSimpArgs false
open Go.Proofs.YthffpkdadffinaaDoor.Ux (Bytes full)
open Go.Proofs.YthffpkdadffinaaDoor.Ot (rns)
open Go.Proofs.YthffpkdadffinaaDoor.Ve (opn)
open Go.RowKit YthffpkdadffinaaDoorW.PrintWords Ev0 Hp Fm X Va Oa Vp0 Sga Sgb Sgd Sgp Sgw Wa Wb Wd Wg Wj Wsm Wbs
theorem sum_wrap {a b q : Int} (h : q = a + b) (h0 : 0 ≤ q) (h1 : q ≤ 4194304) : wrap64 (a + b) = q ∧ IntKind.i64.wrap (a + b) = q := by
  (have e1 : wrap64 (a + b) = q := by unfold wrap64; omega); exact ⟨e1, by rw [IntKind.wrap_i64]; clear e1; omega⟩
theorem sub_wrap {i l j : Nat} (h : i = l + j) (hi : i ≤ 4194304) : wrap64 ((i : Int) - (l : Int)) = (j : Int) ∧ IntKind.i64.wrap ((i : Int) - (l : Int)) = (j : Int) := by
  (have e1 : wrap64 ((i : Int) - (l : Int)) = (j : Int) := by unfold wrap64; omega); exact ⟨e1, by rw [IntKind.wrap_i64]; clear e1; omega⟩
theorem add_wrap {s n : Nat} (hs : s ≤ 4194304) (hn : n ≤ 4194304) : wrap64 ((s : Int) + (n : Int)) = (s : Int) + (n : Int) ∧ wrap64 ((s : Int) + (n : Int) + 1) = (s : Int) + (n : Int) + 1 := by
  (have e1 : wrap64 ((s : Int) + (n : Int)) = (s : Int) + (n : Int) := by unfold wrap64; omega); exact ⟨e1, by clear e1; unfold wrap64; omega⟩
theorem cell0 {w : World} {ad : Addr} {v : Option Value} (h : w.cell? (ad.add 0) = v) : w.cell? ad = v := by
  have e : ad.add 0 = ad := by
    unfold Addr.add; rw [if_pos rfl]
  rw [← e]; exact h
set_option maxRecDepth 100000 in
set_option maxHeartbeats 16000000 in
theorem wordsBesideP (w : World) (hG : G w) (A B : Option Addr) (n c m d : Nat) (a b : List Int) (hC : KB.C w A n a) (hn : n = a.length) (hc : n ≤ c) (hD : KB.C w B m b) (hm : m = b.length) (hd : m ≤ d) (hBa : Bytes a) (hBb : Bytes b) (hla : n ≤ 1048576) (hlb : m ≤ 1048576) :
    Calls Tryd.prog 12 #[.slice A n c, .slice B m d] w fun e w' => e = .returned (.bool true) ∧ Below w.heap.size w w' := by
  have h32 := r32 b hBb; obtain ⟨R, hR⟩ : ∃ R, R = rns b := ⟨_, rfl⟩; rw [← hR] at h32; have FR := Aside0.mk (show ∀ W, Below w.heap.size w W → Calls Tryd.prog 36 #[.slice B m d] W fun e w' => ∃ v, e = .returned v ∧ Kd.R (Kd.int .i32) 21 w' W.heap.size (fun _ => True) v R ∧ Below W.heap.size W w' from fun W h => by rw [hR]; exact Lwt.RunesR W B m d b (Kd.C_below hD h) hm hd hBb (by omega)); have HG := Aside0.mk hG; have HC := Aside0.mk hC; have HD := Aside0.mk hD; have HN := Aside0.mk hn; have HM := Aside0.mk hm; have HBa := Aside0.mk hBa; have HBb := Aside0.mk hBb; have HR := Aside0.mk hR; clear hC hD hn hm hBa hBb hR hG; by_cases hQ : ∃ x t, R = x :: t ∧ opn x = false
  · obtain ⟨x, t, rfl, ho⟩ := hQ; have hx := h32 x (List.mem_cons_self ..); clear h32; have FO := Aside0.mk (fun W : World => Lwt.ROpensR W x hx); rw [ho] at FO; obtain ⟨rl, hrl⟩ : ∃ rl, rl = (x :: t).length := ⟨_, rfl⟩; have HX := Aside0.mk hrl; (have hrl1 : (0 : Int) < (rl : Int) := by rw [hrl, List.length_cons]; omega); (have hrl2 : 0 < rl := by omega); clear ho hrl; go_enter Tryd.func12, Tryd.ntmps12; go_wp2_with (first | (go_at_call 26; refine (Wf.wordsFixedP w HG.out).mono ?_; rintro E w2 ⟨rfl, p1⟩; have H2 := Aside0.mk p1; clear p1) | (go_at_call 36; go_must (refine (FR.out w2 H2.out).mono ?_; rintro E w3 ⟨v, rfl, p0, p1⟩; obtain ⟨A3, c3, rfl, hc3, hC3⟩ := Kd.R_reads p0; have H3 := Aside0.mk (below_step H2.out p1); rw [← HX.out] at hC3 hc3 ⊢; obtain ⟨ad, rfl, hz⟩ := (rdint hC3).2.2 (by have := HX.out; rw [this]; simp); have hz3 := cell0 (hz 0 (by have := HX.out; rw [this]; simp)); simp only [List.getD_cons_zero] at hz3; clear p0 p1 hC3 hz)) | (go_at_call 37; go_must (refine (FO.out _).mono ?_; rintro E w4 ⟨rfl, p1⟩; have H4 := Aside0.mk (below_step H3.out p1); clear p1))); go_ret; exact ⟨rfl, H4.out⟩
  · have hQ2 : ∀ x t, rns b = x :: t → opn x = true := fun x t h => by
      rw [← HR.out] at h
      cases ho : opn x with
      | true => rfl
      | false => exact absurd ⟨x, t, h, ho⟩ hQ
    obtain ⟨L, e, M, f, Bo, g, hL, hM, hBo, hL1, hM1, hB1, hef⟩ := beside_all a b HBa.out HBb.out (by rw [← HN.out]; exact hla) (by rw [← HM.out]; exact hlb) hQ2
    have FO := Aside0.mk (show ∀ x t, R = x :: t → ∀ W, Calls Tryd.prog 37 #[.int .i32 x] W fun e w' => e = .returned (.bool true) ∧ Below W.heap.size W w' from fun x t h W => by
      have h3 := Lwt.ROpensR W x (h32 x (by rw [h]; exact List.mem_cons_self ..)); rw [hQ2 x t (by rw [← HR.out]; exact h)] at h3
      exact h3)
    obtain ⟨rl, hrl⟩ : ∃ rl, rl = R.length := ⟨_, rfl⟩; have HX := Aside0.mk hrl; clear hrl hQ hQ2 h32; go_enter Tryd.func12, Tryd.ntmps12; go_upto_region 4 with (first | (go_at_call 26; refine (Wf.wordsFixedP w HG.out).mono ?_; rintro E w2 ⟨rfl, p1⟩; have H2 := Aside0.mk p1; clear p1) | (go_at_call 36; go_must (refine (FR.out w2 H2.out).mono ?_; rintro E w3 ⟨v, rfl, p0, p1⟩; obtain ⟨A3, c3, rfl, hc3, hC3⟩ := Kd.R_reads p0; have H3 := Aside0.mk (below_step H2.out p1); rw [← HX.out] at hC3 hc3 ⊢; have C3 := Aside0.mk hC3; clear p0 p1 hC3))); go_cut [28] (fun vq wq => vq = .bool false ∧ Aside0 (Below w.heap.size w wq))
    case first =>
      cases R with
      | nil =>
        obtain rfl : rl = 0 := HX.out; go_wp2; go_meet
        case rel => exact ⟨rfl, H3⟩
      | cons x t =>
        (have hrl2 : 0 < rl := by rw [HX.out]; simp); (have hrl1 : (0 : Int) < (rl : Int) := by omega); obtain ⟨ad, rfl, hz⟩ := (rdint C3.out).2.2 hrl2; have hz3 := cell0 (hz 0 hrl2); simp only [List.getD_cons_zero] at hz3; clear hz; go_wp2_with (go_at_call 37; go_must (refine (FO.out x t rfl _).mono ?_; rintro E w4 ⟨rfl, p1⟩; have H4 := Aside0.mk (below_step H3.out p1); clear p1)); go_meet
        case rel => exact ⟨rfl, H4⟩
    case rest =>
      obtain ⟨rfl, H5⟩ := hcut; obtain ⟨W5, rfl⟩ : ∃ W5, W5 = wc := ⟨_, rfl⟩; have HCa := Aside0.mk (Kd.C_below HC.out H5.out); have HCb := Aside0.mk (Kd.C_below HD.out H5.out); have HG5 := Aside0.mk (HG.out.below H5.out); clear FR FO HC HD HG HR HX H3 C3 H2; obtain ⟨Lp, hLp⟩ : ∃ p, p = L.length := ⟨_, rfl⟩; obtain ⟨Mp, hMp⟩ : ∃ p, p = M.length := ⟨_, rfl⟩; obtain ⟨q, hq⟩ : ∃ p, p = Bo.length := ⟨_, rfl⟩; have HLp := Aside0.mk hLp; have HMp := Aside0.mk hMp; have Hq := Aside0.mk hq
      have FWa := Aside0.mk (show ∀ W, Below W5.heap.size W5 W → Calls Tryd.prog 27 #[.slice A n c, .int .i64 64] W fun E w' => ∃ v, E = .returned (.tuple #[v, .int .i64 e]) ∧ kW.R TW w' W.heap.size (fun _ => True) v L ∧ Below W.heap.size W w' from fun W h => by
        have h2 := Kd.C_below HCa.out h; have hn2 := HN.out; rw [hn2] at h2 ⊢
        exact words_Words.calls A c a 64 L e W h2 (by omega) hL (HG5.out.below h))
      have FWb := Aside0.mk (show ∀ W, Below W5.heap.size W5 W → Calls Tryd.prog 27 #[.slice B m d, .int .i64 64] W fun E w' => ∃ v, E = .returned (.tuple #[v, .int .i64 f]) ∧ kW.R TW w' W.heap.size (fun _ => True) v M ∧ Below W.heap.size W w' from fun W h => by
        have h2 := Kd.C_below HCb.out h; have hn2 := HM.out; rw [hn2] at h2 ⊢
        exact words_Words.calls B d b 64 M f W h2 (by omega) hM (HG5.out.below h))
      obtain ⟨k, hk⟩ : ∃ k, k = ([] ++ a ++ [32] ++ b : List Int).length := ⟨_, rfl⟩; have HK := Aside0.mk hk
      have FWc := Aside0.mk (show ∀ W, Below W5.heap.size W5 W → ∀ A' c', KB.C W A' k ([] ++ a ++ [32] ++ b) → k ≤ c' → Calls Tryd.prog 27 #[.slice A' k c', .int .i64 64] W fun E w' => ∃ v, E = .returned (.tuple #[v, .int .i64 g]) ∧ kW.R TW w' W.heap.size (fun _ => True) v Bo ∧ Below W.heap.size W w' from fun W h A' c' h1 h2 => by
        rw [hk] at h1 h2 ⊢
        exact words_Words.calls A' c' ([] ++ a ++ [32] ++ b) 64 Bo g W h1 h2 hBo (HG5.out.below h))
      have HLT1 := Aside0.mk (show (([] : List Int).length + n) * 1 ≤ 140737488355328 by simp; omega); have HLT2 := Aside0.mk (show (([] ++ a : List Int).length + ([32] : List Int).length) * 1 ≤ 140737488355328 by have := HN.out; simp; omega); have HLT3 := Aside0.mk (show (([] ++ a ++ [32] : List Int).length + m) * 1 ≤ 140737488355328 by have := HN.out; simp; omega); have HEF := Aside0.mk hef; have HLM := Aside0.mk (show Lp ≤ 1048576 ∧ Mp ≤ 1048576 ∧ q ≤ 2097153 from ⟨by omega, by omega, by omega⟩); clear hk hL hM hBo hef hL1 hM1 hB1 hLp hMp hq; go_upto_region 7 with (go_at_call 27; go_must (refine (FWa.out W5 (Below.refl _ _)).mono ?_; rintro E w6 ⟨v, rfl, p0, p1⟩; obtain ⟨A6, c6, rfl, hc6, hC6⟩ := Kd.R_reads p0; have C6 := Aside0.mk hC6; have H6 := Aside0.mk p1; clear p0 p1 hC6; rw [← HLp.out] at hc6 C6 ⊢)); go_upto_region 8 with (go_at_call 27; go_must (refine (FWb.out w6 H6.out).mono ?_; rintro E w7 ⟨v, rfl, p0, p1⟩; obtain ⟨A8, c8, rfl, hc8, hC8⟩ := Kd.R_reads p0; have C8 := Aside0.mk hC8; have n0_ := Aside0.mk (Kd.C_below C6.out p1); clear C6; have C6 := n0_; clear n0_; have H7 := Aside0.mk (below_step H6.out p1); clear p0 p1 hC8; rw [← HMp.out] at hc8 C8 ⊢)); go_upto_region 9 with (first | ((with_reducible refine gate_dst (N := 40) rfl ?_); refine Kd.R_lit KB _ 5 ?hg (N := 40) ?hd (xs := ([] : List Int)) (inner := []) (ok := fun _ => True) (okp := fun _ => True) ?hr (Reps.none _ _) (fun _ hk => hk) trivial (Below.refl _ _) (Nat.le_refl _) (by simp) ?_; (case hd => rfl); (case hg => rfl); (case hr => first | (go_simp; done) | (go_simp; rfl)); intro v1 w1 hR_ hb_ hg_ hnew_; have S1 := Aside0.mk ((Sep.nil w7).newR hR_ hb_); clear hR_ hb_ hg_ hnew_) | ((with_reducible refine gate_builtin (b := .append) (xs := #[.tmp 40, .tmp 41]) rfl ?_); at_builtin; go_must (obtain ⟨ok_, q1, q2, q3⟩ := Sep.row (d := KB) (e := 5) (base := w7.heap.size) (v := v1) (xs := ([] : List Int)) S1.out 0 rfl; (refine Kd.R_append_rows KB (Rr := KB.K w1) (w0 := w1) w7.heap.size rfl (.tmp 40) (.tmp 41) 23 5 (.int .u8 0) 1 rfl Tryd.underlying23 info5 rfl (by decide) (by decide) v1 ([] : List Int) a A n c ok_ (fun _ => False) rfl rfl q1 (Kd.C_below HCa.out (below_step H7.out S1.out.below)) (fun _ _ h => h) (fun _ h => h.elim) q2 (Below.refl _ _) S1.out.below.size HLT1.out ?_); intro v1 w1 hR_ hb_ hg_ hat_; have S2 := Aside0.mk (q3 v1 w1 _ hR_ hg_); clear hR_ hb_ hg_ hat_ q1 q2 q3)) | ((with_reducible refine gate_dst (N := 43) rfl ?_); refine Kd.R_lit KB _ 5 ?hg (N := 43) ?hd (xs := ([32] : List Int)) (inner := [.int .u8 32]) (ok := fun _ => True) (okp := fun _ => True) ?hr (Reps.one (by rfl) (Reps.none _ _)) (fun _ hk => hk) trivial (Below.refl _ _) (Nat.le_refl _) (by simp) ?_; (case hd => rfl); (case hg => rfl); (case hr => first | (go_simp; done) | (go_simp; rfl)); intro v2 w2 hR_ hb_ hg_ hnew_; obtain ⟨A2, c2, rfl, hc2, hC2⟩ := Kd.R_reads hR_; have C2 := Aside0.mk hC2; have S3 := Aside0.mk (S2.out.later hb_); clear hR_ hb_ hg_ hnew_ hC2) | ((with_reducible refine gate_builtin (b := .append) (xs := #[.tmp 42, .tmp 43]) rfl ?_); at_builtin; go_must (obtain ⟨ok_, q1, q2, q3⟩ := Sep.row (d := KB) (e := 5) (base := w7.heap.size) (v := v1) (xs := ([] ++ a : List Int)) S3.out 0 rfl; (refine Kd.R_append_rows KB (Rr := KB.K w2) (w0 := w2) w7.heap.size rfl (.tmp 42) (.tmp 43) 23 5 (.int .u8 0) 1 rfl Tryd.underlying23 info5 rfl (by decide) (by decide) v1 ([] ++ a : List Int) ([32] : List Int) A2 ([32] : List Int).length c2 ok_ (fun _ => False) rfl rfl q1 C2.out (fun _ _ h => h) (fun _ h => h.elim) q2 (Below.refl _ _) S3.out.below.size HLT2.out ?_); intro v1 w1 hR_ hb_ hg_ hat_; have S4 := Aside0.mk (q3 v1 w1 _ hR_ hg_); clear hR_ hb_ hg_ hat_ q1 q2 q3)) | (((with_reducible refine gate_builtin (b := .append) (xs := #[.tmp 44, .tmp 45]) rfl ?_); at_builtin; go_must (obtain ⟨ok_, q1, q2, q3⟩ := Sep.row (d := KB) (e := 5) (base := w7.heap.size) (v := v1) (xs := ([] ++ a ++ [32] : List Int)) S4.out 0 rfl; (refine Kd.R_append_rows KB (Rr := KB.K w1) (w0 := w1) w7.heap.size rfl (.tmp 44) (.tmp 45) 23 5 (.int .u8 0) 1 rfl Tryd.underlying23 info5 rfl (by decide) (by decide) v1 ([] ++ a ++ [32] : List Int) b B m d ok_ (fun _ => False) rfl rfl q1 (Kd.C_below HCb.out (below_step H7.out S4.out.below)) (fun _ _ h => h) (fun _ h => h.elim) q2 (Below.refl _ _) S4.out.below.size HLT3.out ?_); intro v1 w1 hR_ hb_ hg_ hat_; have S5 := Aside0.mk (q3 v1 w1 _ hR_ hg_); clear hR_ hb_ hg_ hat_ q1 q2 q3)); go_must (obtain ⟨A9, c9, rfl, hc9, hC9⟩ := Sep.reads (d := KB) (e := 5) (base := w7.heap.size) (v := v1) (xs := ([] ++ a ++ [32] ++ b : List Int)) S5.out 0 rfl; rw [← HK.out] at hc9 hC9 ⊢; have C9 := Aside0.mk hC9; clear hC9)) | (go_at_call 27; go_must (refine (FWc.out _ (below_step H7.out S5.out.below) A9 c9 C9.out hc9).mono ?_; rintro E w8 ⟨v, rfl, p0, p1⟩; obtain ⟨A10, c10, rfl, hc10, hC10⟩ := Kd.R_reads p0; have C10 := Aside0.mk hC10; have H8 := Aside0.mk (below_step (below_step H7.out S5.out.below) p1); have H78 := Aside0.mk (below_step S5.out.below p1); clear p0 p1 hC10; rw [← Hq.out] at hc10 C10 ⊢))); have n0_ := Aside0.mk (Kd.C_below C6.out H78.out); clear C6; have C6 := n0_; clear n0_; have n0_ := Aside0.mk (Kd.C_below C8.out H78.out); clear C8; have C8 := n0_; clear n0_ FWa FWb FWc HCa HCb HG5 C9 C2 S1 S2 S3 S4 S5 HLT1 HLT2 HLT3 H6 H7 H78 HK hc9 hc2; have HRET := Aside0.mk (below_step H5.out H8.out); by_cases he : e = 0
      · by_cases hf : f = 0
        · obtain ⟨rfl, ⟨N, hBN⟩, hRK⟩ := HEF.out he hf; have HRK := Aside0.mk hRK; clear hRK; subst he hf
          have hqs : (q : Int) = (Lp : Int) + (Mp : Int) := by
            have h1 := Hq.out; rw [hBN, List.length_append, List.length_map] at h1; have h2 := HLp.out; have h3 := HMp.out; omega
          have HBN := Aside0.mk hBN; have HQS := Aside0.mk hqs; have hb2 := HLM.out; obtain ⟨X1, hX1⟩ : ∃ X, X = L.map (·.f0) := ⟨_, rfl⟩; obtain ⟨X2, hX2⟩ : ∃ X, X = M.map (·.f0) := ⟨_, rfl⟩; have FKL := Aside0.mk (show ∀ W, Below w8.heap.size w8 W → Calls Tryd.prog 38 #[.slice A6 Lp c6] W fun e w' => ∃ v, e = .returned v ∧ Kd.string.R 9 w' W.heap.size (fun _ => True) v X1 ∧ Below W.heap.size W w' from fun W h => Lwt.KeysP W A6 Lp c6 L (Kd.C_below C6.out h) HLp.out hc6 (by omega) X1 hX1); have FKM := Aside0.mk (show ∀ W, Below w8.heap.size w8 W → Calls Tryd.prog 38 #[.slice A8 Mp c8] W fun e w' => ∃ v, e = .returned v ∧ Kd.string.R 9 w' W.heap.size (fun _ => True) v X2 ∧ Below W.heap.size W w' from fun W h => Lwt.KeysP W A8 Mp c8 M (Kd.C_below C8.out h) HMp.out hc8 (by omega) X2 hX2); have HX1 := Aside0.mk hX1; have HX2 := Aside0.mk hX2; have HXL := Aside0.mk (show X1.length = Lp ∧ X2.length = Mp from ⟨by rw [hX1, List.length_map, HLp.out], by rw [hX2, List.length_map, HMp.out]⟩); have HKX := Aside0.mk (show q = ([] ++ X1 ++ X2 : List ByteArray).length by have := HXL.out; simp; omega); have HT1 := Aside0.mk (show (([] : List ByteArray).length + X1.length) * 16 ≤ 140737488355328 by have := HXL.out; simp; omega); have HT2 := Aside0.mk (show (([] ++ X1 : List ByteArray).length + X2.length) * 16 ≤ 140737488355328 by have := HXL.out; simp; omega); have hsw := sum_wrap hqs (by omega) (by omega); have hs1 := hsw.1; have hs2 := hsw.2; clear hsw hX1 hX2 hBN hqs hb2 HEF H5 H8; go_wp2; clear hs1 hs2; go_loopw [70] (fun iv wr => ∃ i : Nat, i ≤ q ∧ iv = .int .i64 i ∧ Aside0 (Below w8.heap.size w8 wr)) (fun iv _ => q - (intOf iv).toNat)
          case atStart => exact ⟨0, Nat.zero_le _, rfl, ⟨Below.refl _ _⟩⟩
          case round =>
            obtain ⟨i, hi, rfl, HR⟩ := hrel; by_cases hlt : i < q
            · have hd : decide ((i : Int) < (q : Int)) = true := decide_eq_true (by omega); have hd' : decide (i < q) = true := decide_eq_true hlt; (have hil : i < Bo.length := by rw [← Hq.out]; exact hlt); obtain ⟨ad, rfl, z0, z1, z2, z3, z4⟩ := Wf.wd_at C10.out i hlt hil; obtain ⟨x, hx⟩ : ∃ x, x = Bo[i] := ⟨_, rfl⟩; have HXI := Aside0.mk hx; rw [← hx] at z0 z1 z2 z3 z4; obtain ⟨ky, ⟨F, T', S', E'⟩⟩ := x; simp only at z0 z1 z2 z3 z4; have z0 := cell_later HR.out z0; have z1 := cell_later HR.out z1; have z2 := cell_later HR.out z2; have z3 := cell_later HR.out z3; have z4 := cell_later HR.out z4; (have hn0 : (0 : Int) ≤ (i : Int) := by omega); (have hn1 : (i : Int) < (q : Int) := by omega); clear hx; go_upto_region 16 with (fail); obtain ⟨w9, hw9⟩ : ∃ w9, w9 = wr.alloc (.cells #[.string ky, .int .i64 F, .int .i64 T', .int .i64 S', .int .i64 E'] TW) := ⟨_, rfl⟩; have HB9 := Aside0.mk (show Below w8.heap.size w8 w9 by rw [hw9]; exact below_step HR.out (below_alloc (Below.refl _ _) _)); obtain ⟨pb, hpb⟩ : ∃ pb, pb = wr.heap.size := ⟨_, rfl⟩; (have hbk : w9.heap[pb]? = some (.cells #[.string ky, .int .i64 F, .int .i64 T', .int .i64 S', .int .i64 E'] TW (0, 0)) := by rw [hw9, hpb]; exact heap_alloc_new wr _); rw [← hw9, ← hpb]; have HBK := Aside0.mk hbk; clear hw9 hpb hbk HR z0 z1 z2 z3 z4; go_upto_region 17 with (first | ((with_reducible refine gate_dst (N := 75) rfl ?_); refine Kd.R_lit Kd.string _ 9 ?hg (N := 75) ?hd (xs := ([] : List ByteArray)) (inner := []) (ok := fun _ => True) (okp := fun _ => True) ?hr (Reps.none _ _) (fun _ hk => hk) trivial (Below.refl _ _) (Nat.le_refl _) (by simp) ?_; (case hd => rfl); (case hg => rfl); (case hr => first | (go_simp; done) | (go_simp; rfl)); intro v1 w1 hR_ hb_ hg_ hnew_; have S1 := Aside0.mk ((Sep.nil w9).newR hR_ hb_); clear hR_ hb_ hg_ hnew_) | (go_at_call 38; first | (with_reducible refine (FKL.out _ (below_step HB9.out S1.out.below)).mono ?_; rintro E w2 ⟨v, rfl, p0, p1⟩; obtain ⟨A1, c1, rfl, hc1, hC1⟩ := Kd.R_reads p0; have C1 := Aside0.mk hC1; have S2 := Aside0.mk (S1.out.later p1); clear p0 p1 hC1) | (with_reducible refine (FKM.out _ (below_step HB9.out S3.out.below)).mono ?_; rintro E w2 ⟨v, rfl, p0, p1⟩; obtain ⟨A2, c2, rfl, hc2, hC2⟩ := Kd.R_reads p0; have C2 := Aside0.mk hC2; have S4 := Aside0.mk (S3.out.later p1); clear p0 p1 hC2)) | ((with_reducible refine gate_builtin (b := .append) (xs := #[.tmp 75, .tmp 77]) rfl ?_); at_builtin; go_must (obtain ⟨ok_, q1, q2, q3⟩ := Sep.row (d := Kd.string) (e := 9) (base := w9.heap.size) (v := v1) (xs := ([] : List ByteArray)) S2.out 0 rfl; (refine Kd.R_append_rows Kd.string (Rr := Kd.string.K w2) (w0 := w2) w9.heap.size rfl (.tmp 75) (.tmp 77) 64 9 (.string ⟨#[]⟩) 16 rfl Tryd.underlying64 info9 rfl (by decide) (by decide) v1 ([] : List ByteArray) X1 A1 X1.length c1 ok_ (fun _ => False) rfl rfl q1 C1.out (fun _ _ h => h) (fun _ h => h.elim) q2 (Below.refl _ _) S2.out.below.size HT1.out ?_); intro v1 w1 hR_ hb_ hg_ hat_; have S3 := Aside0.mk (q3 v1 w1 _ hR_ hg_); clear hR_ hb_ hg_ hat_ q1 q2 q3)) | (((with_reducible refine gate_builtin (b := .append) (xs := #[.tmp 78, .tmp 80]) rfl ?_); at_builtin; go_must (obtain ⟨ok_, q1, q2, q3⟩ := Sep.row (d := Kd.string) (e := 9) (base := w9.heap.size) (v := v1) (xs := ([] ++ X1 : List ByteArray)) S4.out 0 rfl; (refine Kd.R_append_rows Kd.string (Rr := Kd.string.K w2) (w0 := w2) w9.heap.size rfl (.tmp 78) (.tmp 80) 64 9 (.string ⟨#[]⟩) 16 rfl Tryd.underlying64 info9 rfl (by decide) (by decide) v1 ([] ++ X1 : List ByteArray) X2 A2 X2.length c2 ok_ (fun _ => False) rfl rfl q1 C2.out (fun _ _ h => h) (fun _ h => h.elim) q2 (Below.refl _ _) S4.out.below.size HT2.out ?_); intro v1 w1 hR_ hb_ hg_ hat_; have S5 := Aside0.mk (q3 v1 w1 _ hR_ hg_); clear hR_ hb_ hg_ hat_ q1 q2 q3)); go_must (obtain ⟨A9, c9, rfl, hc9, hC9⟩ := Sep.reads (d := Kd.string) (e := 9) (base := w9.heap.size) (v := v1) (xs := ([] ++ X1 ++ X2 : List ByteArray)) S5.out 0 rfl; rw [← HKX.out] at hc9 hC9 ⊢; have C9 := Aside0.mk hC9; clear hC9))); have H9 := Aside0.mk (below_step HB9.out S5.out.below); have hbk := (S5.out.below.block pb (Array.getElem?_eq_some_iff.1 HBK.out).1).trans HBK.out; have c0 := blk_cell hbk 0; have c1' := blk_cell hbk 1; have c2' := blk_cell hbk 2; have c3' := blk_cell hbk 3; have c4' := blk_cell hbk 4; obtain ⟨ad9, rfl, hz9⟩ := Kd.at_string C9.out (i : Int) hn0 hn1; have hKK : (ky.toList == ky.toList) = true := beq_self_eq_true _; have hLM := HLM.out; by_cases hiL : i < Lp
              · (have hiL2 : i < L.length := by rw [← HLp.out]; exact hiL); have eb : Bo[i] = L[i] := by simp only [HBN.out]; rw [List.getElem_append_left hiL2]
                have ex : rdOf ByteArray.empty ([] ++ X1 ++ X2) (i : Int) = ky := by
                  have h1 : ([] ++ X1 ++ X2 : List ByteArray)[i]? = some ky := by
                    rw [List.nil_append, List.getElem?_append_left (by rw [HXL.out.1]; exact hiL), HX1.out, List.getElem?_map, List.getElem?_eq_getElem hiL2, ← eb, ← HXI.out]
                    rfl
                  rw [List.nil_append] at h1 ⊢; simp [rdOf, List.getD_eq_getElem?_getD, h1]
                rw [ex, Int.toNat_natCast] at hz9; obtain ⟨ad6, rfl, y0, y1, y2, y3, y4⟩ := Wf.wd_at C6.out i hiL hiL2; rw [← eb, ← HXI.out] at y0 y1 y2 y3 y4; have y1 := cell_later H9.out y1; have y2 := cell_later H9.out y2; have y3 := cell_later H9.out y3; have y4 := cell_later H9.out y4; have d1 : decide ((i : Int) < (Lp : Int)) = true := decide_eq_true (by omega); have d1' : decide (i < Lp) = true := decide_eq_true hiL; have d2 : decide ((i : Int) ≥ (Lp : Int)) = false := decide_eq_false (by omega); have d2' : decide ((Lp : Int) ≤ (i : Int)) = false := decide_eq_false (by omega); have d3 : decide (Lp ≤ i) = false := decide_eq_false (by omega); (have hn2 : (i : Int) < (Lp : Int) := by omega); clear ex eb y0 hbk S1 S2 S3 S4 S5 C1 C2 HBK HB9; go_quiet (fail); have HB10 := Aside0.mk (below_step H9.out ((Drawn0.refl w1).step nq).below); go_wp2; go_roundw
                case rel => exact ⟨i + 1, by omega, by go_num, HB10⟩
                case measure => simp [intOf]; omega
              · obtain ⟨j, hj⟩ : ∃ j, i = Lp + j := ⟨i - Lp, by omega⟩; (have hjM : j < Mp := by have := HQS.out; omega); have hjM2 : j < M.length := by rw [← HMp.out]; exact hjM
                have eb : Bo[i] = shW N (a.length + 1) M[j] := by
                  simp only [HBN.out]; rw [List.getElem_append_right (by rw [← HLp.out]; omega), List.getElem_map]; congr 2; rw [← HLp.out]; omega
                have ex : rdOf ByteArray.empty ([] ++ X1 ++ X2) (i : Int) = ky := by
                  have h1 : (X1 ++ X2 : List ByteArray)[i]? = some ky := by
                    have e1 : i - X1.length = j := by rw [HXL.out.1]; omega
                    have e2 : ky = M[j].f0 := by
                      have h := congrArg (fun x => x.f0) (HXI.out.trans eb); exact h
                    rw [List.getElem?_append_right (by rw [HXL.out.1]; omega), e1, HX2.out, List.getElem?_map, List.getElem?_eq_getElem hjM2, e2]
                    rfl
                  rw [List.nil_append]; simp [rdOf, List.getD_eq_getElem?_getD, h1]
                rw [ex, Int.toNat_natCast] at hz9; obtain ⟨s0, e0, r1, -, r3, r4, -⟩ := HRK.out j hjM2
                have es : S' = (s0 : Int) + (n : Int) + 1 := by
                  have h := congrArg (fun x => x.f1.f2) (HXI.out.trans eb); have h2 : S' = M[j].f1.f2 + ((a.length : Int) + 1) := h; have h3 := HN.out; omega
                obtain ⟨bd, rfl, -, -, -, y3, -⟩ := Wf.wd_at C8.out j hjM hjM2; rw [r1] at y3; have y3 := cell_later H9.out y3; (have hs0 : s0 ≤ 4194304 := by have := HM.out; omega); have hsb := sub_wrap hj (by omega); have had := add_wrap hs0 (show n ≤ 4194304 by omega); have d1 : decide ((i : Int) < (Lp : Int)) = false := decide_eq_false (by omega); have d1' : decide (i < Lp) = false := decide_eq_false hiL; have d2 : decide ((i : Int) ≥ (Lp : Int)) = true := decide_eq_true (by omega); have d2' : decide ((Lp : Int) ≤ (i : Int)) = true := decide_eq_true (by omega); have d3 : decide (Lp ≤ i) = true := decide_eq_true (by omega); (have hn2 : (0 : Int) ≤ (j : Int) := by omega); (have hn3 : (j : Int) < (Mp : Int) := by omega); (have hwj3 : IntKind.i64.wrap (j : Int) = (j : Int) := by rw [IntKind.wrap_i64]; omega); have hjn : (Mp ≤ j) = False := eq_false (by omega); have HI1 := Aside0.mk (show i + 1 ≤ q by omega); have HI2 := Aside0.mk (show i < q by omega); have HI3 := Aside0.mk (show i ≤ 2097153 by omega); have ha1 := had.1; have ha2 := had.2; have hb1 := hsb.1; have hb2 := hsb.2; subst es; clear ex eb r1 r3 r4 hs0 hsb had hbk S1 S2 S3 S4 S5 C1 C2 HBK HB9 hj hjM2 hLM hd hd' hlt hiL hi; go_quiet (fail); have HB10 := Aside0.mk (below_step H9.out ((Drawn0.refl w1).step nq).below); clear ha1 ha2 hb1 hb2 hwj3; have hlt := HI2.out; have hi3 := HI3.out; go_wp2; go_roundw
                case rel => exact ⟨i + 1, HI1.out, by go_num, HB10⟩
                case measure => simp [intOf]; omega
            · have hd : decide ((i : Int) < (q : Int)) = false := decide_eq_false (by omega); have hd' : decide (i < q) = false := decide_eq_false hlt; clear hlt; go_wp2; go_ret; exact ⟨rfl, below_step HRET.out HR.out⟩
        · have d1 : (f == 0) = false := beq_eq_false_iff_ne.2 hf; clear hf; subst he; go_wp2; go_ret; exact ⟨rfl, HRET.out⟩
      · have d1 : (e == 0) = false := beq_eq_false_iff_ne.2 he; clear he; go_wp2; go_ret; exact ⟨rfl, HRET.out⟩
end Go.Proofs.YthffpkdadffinaaDoor.Lwb
namespace Go.Proofs.YthffpkdadffinaaDoor.X
set_option linter.unusedVariables false
set_option linter.unusedSimpArgs false
open Go.RowKit YthffpkdadffinaaDoorW.PrintWords Vp0
def tremalaw13_WordsBeside.f (a b : List Int) : Option Bool := if (bytesB a = true ∧ a.length ≤ 1048576) ∧ bytesB b = true ∧ b.length ≤ 1048576 then some true else none
theorem tremalaw13_WordsBeside.calls (A0 : Option Addr) (c0 : Nat) (a : List Int) (A1 : Option Addr) (c1 : Nat) (b : List Int) (r : Bool) (w : World) (hr0 : Kd.C (Kd.int .u8) w A0 a.length a) (hc0 : a.length ≤ c0) (hr1 : Kd.C (Kd.int .u8) w A1 b.length b) (hc1 : b.length ≤ c1) (h : tremalaw13_WordsBeside.f a b = some r) (hG0 : Va.G w) :
  Calls Tryd.prog 12 #[.slice A0 a.length c0, .slice A1 b.length c1] w fun e w' => e = .returned (.bool r) ∧ Below w.heap.size w w' := by
  unfold tremalaw13_WordsBeside.f at h; split at h
  · rename_i hh; cases Option.some.inj h; exact Lwb.wordsBesideP w hG0 A0 A1 a.length c0 b.length c1 a b hr0 rfl hc0 hr1 rfl hc1 (bytesB_of hh.1.1) (bytesB_of hh.2.1) hh.1.2 hh.2.2
  · cases h
theorem tremalaw13_WordsBeside.pure (a : List Int) (hwf : ∀ y ∈ a, (Lit.int .u8 y).wf = true) (hl : a.length ≤ 1048576) (b : List Int) (hwb : ∀ y ∈ b, (Lit.int .u8 y).wf = true) (hlb : b.length ≤ 1048576) : tremalaw13_WordsBeside.f a b = some true := by
  unfold tremalaw13_WordsBeside.f; rw [if_pos ⟨⟨Sgr.bytesB_mk (Ot.wf_bytes hwf), hl⟩, Sgr.bytesB_mk (Ot.wf_bytes hwb), hlb⟩]
end Go.Proofs.YthffpkdadffinaaDoor.X
