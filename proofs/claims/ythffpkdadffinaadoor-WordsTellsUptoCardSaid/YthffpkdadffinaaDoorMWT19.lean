/-
  Several texts of this claim in one: what its law's proof uses.
-/
import Derived.Test.YthffpkdadffinaaDoorMWT2
import Derived.Test.YthffpkdadffinaaDoorMWT18
import Derived.Test.YthffpkdadffinaaDoorMWT16
import Derived.Test.YthffpkdadffinaaDoorMWT3
import Derived.Test.YthffpkdadffinaaDoorMWT17
import Derived.Test.YthffpkdadffinaaDoorRows
import Derived.Deep.Slices
import Derived.ChangeArms
import Derived.ChangeMaps
import Derived.SizedLaws
import Derived.OpenShut
import Derived.ProofKit
import Derived.LaidMore
import Derived.Stop.Joined
import Derived.Test.YthffpkdadffinaaDoorTie
import Derived.Test.YthffpkdadffinaaDoorCards
import Derived.WalkKit
import Derived.ShutString
import Derived.ChangeOld
import Derived.Below
import Derived.JoinedCond
import Derived.SevenTiedAt
import Derived.Deep.DeepHandedRow
import Derived.Deep.DeepWitnessRowRef
namespace Go.Proofs.YthffpkdadffinaaDoor.X
open Go.RowKit YthffpkdadffinaaDoorW.PrintWords YthffpkdadffinaaDoorW.PrintLast YthffpkdadffinaaDoorW.PrintMore
attribute [local go_sem] max2_int min2_int max_two min_two max_three min_three max_four min_four   
def tremalaw13_WordsTells.f (k : Nat) (l0 : List Int) (a1 : Int) : Option (Bool) := (tremalaw13_fixed.f).bind fun t355 => (if t355 = true then ((words_Words.f l0 a1).bind fun bt356 => ((tremaref13_Words.f k l0 a1).bind fun bt360 => (if bt356.2 = bt360.2 then ((tremaref13_Same.f k bt356.1 bt360.1).bind fun t364 => (some t364)) else (some false)))) else (some false))
theorem tremalaw13_WordsTells.mono : ∀ a0 a1 k, LeO (tremalaw13_WordsTells.f k a0 a1) (tremalaw13_WordsTells.f (k + 1) a0 a1) := by
 intro a0 a1 k; unfold tremalaw13_WordsTells.f; repeat' first | (with_reducible exact tremaref13_Same.mono _ _ _) | (with_reducible exact tremaref13_Words.mono _ _ _) | (with_reducible exact LeO.refl _) | (with_reducible exact LeO.none _) | (with_reducible refine LeO.ite ?_ ?_) | (with_reducible refine LeO.bind ?_ (fun _ => ?_)) | exact tremaref13_Same.mono _ _ _ | exact tremaref13_Words.mono _ _ _ | exact LeO.none _ | refine LeO.ite ?_ ?_ | refine LeO.bind ?_ (fun _ => ?_)
set_option maxHeartbeats 8000000 in
set_option maxRecDepth 100000 in
theorem tremalaw13_WordsTells.calls (k : Nat) (A0 : Option Addr) (c0 : Nat) (l0 : List Int) (a1 : Int) (r : Bool) (w : World) (hr0 : Kd.C (Kd.int .u8) w A0 l0.length l0) (hc0 : l0.length ≤ c0) (h : tremalaw13_WordsTells.f k l0 a1 = some r) (hG0 : Va.G w) :
  Calls Tryd.prog 6 #[.slice A0 l0.length c0, .int .i64 a1] w fun e w' => e = .returned (.bool r) ∧ Below w.heap.size w w' := by
 have HG := Aside0.mk hG0; clear hG0; have HR0 := Aside0.mk hr0; have HC0 := Aside0.mk hc0; clear hr0 hc0; have HB := Aside0.mk (Below.refl w.heap.size w); have H : ((tremalaw13_fixed.f).bind fun t355 => (if t355 = true then ((words_Words.f l0 a1).bind fun bt356 => ((tremaref13_Words.f k l0 a1).bind fun bt360 => (if bt356.2 = bt360.2 then ((tremaref13_Same.f k bt356.1 bt360.1).bind fun t364 => (some t364)) else (some false)))) else (some false))) = some r := h; clear h; replace H := Option.bind_eq_some_iff.mp H; obtain ⟨t355, A30, H⟩ := H; (try dsimp only at H); have A3 := Aside0.mk A30; clear A30; by_cases c4 : t355 = true
 ·subst c4; rw [if_pos rfl] at H; replace H := Option.bind_eq_some_iff.mp H; obtain ⟨⟨t356, t357⟩, A50, H⟩ := H; (try dsimp only at H); have A5 := Aside0.mk A50; clear A50; replace H := Option.bind_eq_some_iff.mp H; obtain ⟨⟨t360, t361⟩, A60, H⟩ := H; (try dsimp only at H); have A6 := Aside0.mk A60; clear A60; by_cases c7 : t357 = t361
  ·rw [if_pos c7] at H; have c7b0 : (t357 == t361) = true := beq_iff_eq.mpr c7; have c7b1 : (t357 != t361) = false := bne_eq_false_iff_eq.mpr c7; clear c7; replace H := Option.bind_eq_some_iff.mp H; obtain ⟨t364, A80, H⟩ := H; replace H : (some t364) = some r := H; have A8 := Aside0.mk A80; clear A80; obtain rfl := Option.some.inj H; go_enter Tryd.func6, Tryd.ntmps6; go_wp2_with (first | ((with_reducible refine gate_callee (f := 26) rfl ?_); refine goesL_ (some 9) rfl rfl Tryd.func26 (by kernel_rfl) rfl #[] rfl (by (try simp only [List.map_toArray, List.map_cons, List.map_nil]); first | done | rfl | (simp only [List.length_drop, List.length_take]; rfl)) ?_; (with_reducible refine (tremalaw13_fixed.calls  true _ A3.out (by first | exact HG.out | exact Va.G.below HG.out (by repeat (first | (with_reducible first | exact HB.out | apply below_alloc | apply pw_below_drewN | apply below_drew1) | exact HB.out)))).mono ?_); rintro e w9 ⟨rfl, hb⟩; refine ⟨_, rfl, ?_⟩; have n0_ := Aside0.mk (below_step (by repeat (first | (with_reducible first | exact HB.out | apply below_alloc | apply pw_below_drewN | apply below_drew1) | exact HB.out)) hb); clear HB; have HB := n0_; clear n0_; (try clear hb); (try clear hb2); (try clear hk); (try clear hi)) | ((with_reducible refine gate_callee (f := 27) rfl ?_); refine goesL_ (some 14) rfl rfl Tryd.func27 (by kernel_rfl) rfl #[.slice A0 l0.length c0, .int .i64 a1] rfl (by (try simp only [List.map_toArray, List.map_cons, List.map_nil]); first | done | rfl | (simp only [List.length_drop, List.length_take]; rfl)) ?_; (with_reducible refine (words_Words.calls _ _ l0 a1 t356 t357 _ ?side1 ?side2 A5.out (by first | exact HG.out | exact Va.G.below HG.out (by repeat (first | (with_reducible first | exact HB.out | apply below_alloc | apply pw_below_drewN | apply below_drew1) | exact HB.out)))).mono ?_); (case side1 => repeat (first | exact (Kd.C_below HR0.out HB.out) | (with_reducible refine Kd.C_alloc ?_ _) | (with_reducible refine Kd.C_drewN ?_ _) | (with_reducible refine Kd.C_drew ?_))); (case side2 => exact HC0.out); rintro e w10 ⟨v358, rfl, ho0, hb⟩; refine ⟨_, rfl, ?_⟩; have n0_ := Aside0.mk (Kd.R_lower ho0 (below_size (by repeat (first | (with_reducible first | exact HB.out | apply below_alloc | apply pw_below_drewN | apply below_drew1) | exact HB.out)))); have n1_ := Aside0.mk (below_step (by repeat (first | (with_reducible first | exact HB.out | apply below_alloc | apply pw_below_drewN | apply below_drew1) | exact HB.out)) hb); clear HB; have HO359 := n0_; have HB := n1_; clear n0_ n1_; (try clear hb); (try clear hb2); (try clear hk); (try clear hi); (try clear ho0)) | ((with_reducible refine gate_callee (f := 28) rfl ?_); refine goesL_ (some 20) rfl rfl Tryd.func28 (by kernel_rfl) rfl #[.slice A0 l0.length c0, .int .i64 a1] rfl (by (try simp only [List.map_toArray, List.map_cons, List.map_nil]); first | done | rfl | (simp only [List.length_drop, List.length_take]; rfl)) ?_; (with_reducible refine (tremaref13_Words.calls k _ _ l0 a1 t360 t361 _ ?side1 ?side2 A6.out).mono ?_); (case side1 => repeat (first | exact (Kd.C_below HR0.out HB.out) | (with_reducible refine Kd.C_alloc ?_ _) | (with_reducible refine Kd.C_drewN ?_ _) | (with_reducible refine Kd.C_drew ?_))); (case side2 => exact HC0.out); rintro e w11 ⟨v362, rfl, ho0, hb⟩; refine ⟨_, rfl, ?_⟩; have n0_ := Aside0.mk (Kd.R_elder' (by (with_reducible repeat (first | apply Kd.R_alloc | apply Kd.R_drewN | apply Kd.R_drew)); exact HO359.out) (Kd.R_base ho0) hb); have n1_ := Aside0.mk (Kd.R_lower (Kd.R_new' ho0 (Kd.R_lt (by (with_reducible repeat (first | apply Kd.R_alloc | apply Kd.R_drewN | apply Kd.R_drew)); exact HO359.out))) (below_size (by repeat (first | (with_reducible first | exact HB.out | apply below_alloc | apply pw_below_drewN | apply below_drew1) | exact HB.out)))); have n2_ := Aside0.mk (below_step (by repeat (first | (with_reducible first | exact HB.out | apply below_alloc | apply pw_below_drewN | apply below_drew1) | exact HB.out)) hb); clear HO359; clear HB; have HO359 := n0_; have HO363 := n1_; have HB := n2_; clear n0_ n1_ n2_; (try clear hb); (try clear hb2); (try clear hk); (try clear hi); (try clear ho0); obtain ⟨Ao12, co12, eo12⟩ := Kd.R_slice HO359.out; subst eo12; obtain ⟨Ao13, co13, eo13⟩ := Kd.R_slice HO363.out; subst eo13) | (go_at_call 29; (with_reducible refine (tremaref13_Same.calls k _ _ t356 _ _ t360 t364 _ ?side1 ?side2 ?side3 ?side4 A8.out).mono ?_); (case side1 => repeat (first | exact (Kd.R_reads' HO359.out).2.2 | (with_reducible refine Kd.C_alloc ?_ _) | (with_reducible refine Kd.C_drewN ?_ _) | (with_reducible refine Kd.C_drew ?_))); (case side2 => exact (Kd.R_reads' HO359.out).2.1); (case side3 => repeat (first | exact (Kd.R_reads' HO363.out).2.2 | (with_reducible refine Kd.C_alloc ?_ _) | (with_reducible refine Kd.C_drewN ?_ _) | (with_reducible refine Kd.C_drew ?_))); (case side4 => exact (Kd.R_reads' HO363.out).2.1); rintro e w' ⟨rfl, ⟨nd, rfl⟩⟩)); go_ret; exact ⟨by first | rfl | (simp [errW_none, errW_some] <;> rfl) | (simp [*, errW_none, errW_some] <;> rfl), by repeat (first | (with_reducible first | exact HB.out | apply below_alloc | apply pw_below_drewN | apply below_drew1) | exact HB.out)⟩
  ·rw [if_neg c7] at H; have c7b0 : (t357 == t361) = false := beq_eq_false_iff_ne.mpr c7; have c7b1 : (t357 != t361) = true := bne_iff_ne.mpr c7; obtain rfl := Option.some.inj H; go_enter Tryd.func6, Tryd.ntmps6; go_wp2_with (first | ((with_reducible refine gate_callee (f := 26) rfl ?_); refine goesL_ (some 9) rfl rfl Tryd.func26 (by kernel_rfl) rfl #[] rfl (by (try simp only [List.map_toArray, List.map_cons, List.map_nil]); first | done | rfl | (simp only [List.length_drop, List.length_take]; rfl)) ?_; (with_reducible refine (tremalaw13_fixed.calls  true _ A3.out (by first | exact HG.out | exact Va.G.below HG.out (by repeat (first | (with_reducible first | exact HB.out | apply below_alloc | apply pw_below_drewN | apply below_drew1) | exact HB.out)))).mono ?_); rintro e w14 ⟨rfl, hb⟩; refine ⟨_, rfl, ?_⟩; have n0_ := Aside0.mk (below_step (by repeat (first | (with_reducible first | exact HB.out | apply below_alloc | apply pw_below_drewN | apply below_drew1) | exact HB.out)) hb); clear HB; have HB := n0_; clear n0_; (try clear hb); (try clear hb2); (try clear hk); (try clear hi)) | ((with_reducible refine gate_callee (f := 27) rfl ?_); refine goesL_ (some 14) rfl rfl Tryd.func27 (by kernel_rfl) rfl #[.slice A0 l0.length c0, .int .i64 a1] rfl (by (try simp only [List.map_toArray, List.map_cons, List.map_nil]); first | done | rfl | (simp only [List.length_drop, List.length_take]; rfl)) ?_; (with_reducible refine (words_Words.calls _ _ l0 a1 t356 t357 _ ?side1 ?side2 A5.out (by first | exact HG.out | exact Va.G.below HG.out (by repeat (first | (with_reducible first | exact HB.out | apply below_alloc | apply pw_below_drewN | apply below_drew1) | exact HB.out)))).mono ?_); (case side1 => repeat (first | exact (Kd.C_below HR0.out HB.out) | (with_reducible refine Kd.C_alloc ?_ _) | (with_reducible refine Kd.C_drewN ?_ _) | (with_reducible refine Kd.C_drew ?_))); (case side2 => exact HC0.out); rintro e w15 ⟨v358, rfl, ho0, hb⟩; refine ⟨_, rfl, ?_⟩; have n0_ := Aside0.mk (Kd.R_lower ho0 (below_size (by repeat (first | (with_reducible first | exact HB.out | apply below_alloc | apply pw_below_drewN | apply below_drew1) | exact HB.out)))); have n1_ := Aside0.mk (below_step (by repeat (first | (with_reducible first | exact HB.out | apply below_alloc | apply pw_below_drewN | apply below_drew1) | exact HB.out)) hb); clear HB; have HO359 := n0_; have HB := n1_; clear n0_ n1_; (try clear hb); (try clear hb2); (try clear hk); (try clear hi); (try clear ho0)) | ((with_reducible refine gate_callee (f := 28) rfl ?_); refine goesL_ (some 20) rfl rfl Tryd.func28 (by kernel_rfl) rfl #[.slice A0 l0.length c0, .int .i64 a1] rfl (by (try simp only [List.map_toArray, List.map_cons, List.map_nil]); first | done | rfl | (simp only [List.length_drop, List.length_take]; rfl)) ?_; (with_reducible refine (tremaref13_Words.calls k _ _ l0 a1 t360 t361 _ ?side1 ?side2 A6.out).mono ?_); (case side1 => repeat (first | exact (Kd.C_below HR0.out HB.out) | (with_reducible refine Kd.C_alloc ?_ _) | (with_reducible refine Kd.C_drewN ?_ _) | (with_reducible refine Kd.C_drew ?_))); (case side2 => exact HC0.out); rintro e w16 ⟨v362, rfl, ho0, hb⟩; refine ⟨_, rfl, ?_⟩; have n0_ := Aside0.mk (Kd.R_elder' (by (with_reducible repeat (first | apply Kd.R_alloc | apply Kd.R_drewN | apply Kd.R_drew)); exact HO359.out) (Kd.R_base ho0) hb); have n1_ := Aside0.mk (Kd.R_lower (Kd.R_new' ho0 (Kd.R_lt (by (with_reducible repeat (first | apply Kd.R_alloc | apply Kd.R_drewN | apply Kd.R_drew)); exact HO359.out))) (below_size (by repeat (first | (with_reducible first | exact HB.out | apply below_alloc | apply pw_below_drewN | apply below_drew1) | exact HB.out)))); have n2_ := Aside0.mk (below_step (by repeat (first | (with_reducible first | exact HB.out | apply below_alloc | apply pw_below_drewN | apply below_drew1) | exact HB.out)) hb); clear HO359; clear HB; have HO359 := n0_; have HO363 := n1_; have HB := n2_; clear n0_ n1_ n2_; (try clear hb); (try clear hb2); (try clear hk); (try clear hi); (try clear ho0))); go_ret; exact ⟨by first | rfl | (simp [errW_none, errW_some] <;> rfl) | (simp [*, errW_none, errW_some] <;> rfl), by repeat (first | (with_reducible first | exact HB.out | apply below_alloc | apply pw_below_drewN | apply below_drew1) | exact HB.out)⟩
 ·replace c4 := Bool.eq_false_iff.mpr c4; subst c4; rw [if_neg (show ¬ (false = true) by decide)] at H; obtain rfl := Option.some.inj H; go_enter Tryd.func6, Tryd.ntmps6; go_wp2_with (first | ((with_reducible refine gate_callee (f := 26) rfl ?_); refine goesL_ (some 9) rfl rfl Tryd.func26 (by kernel_rfl) rfl #[] rfl (by (try simp only [List.map_toArray, List.map_cons, List.map_nil]); first | done | rfl | (simp only [List.length_drop, List.length_take]; rfl)) ?_; (with_reducible refine (tremalaw13_fixed.calls  false _ A3.out (by first | exact HG.out | exact Va.G.below HG.out (by repeat (first | (with_reducible first | exact HB.out | apply below_alloc | apply pw_below_drewN | apply below_drew1) | exact HB.out)))).mono ?_); rintro e w17 ⟨rfl, hb⟩; refine ⟨_, rfl, ?_⟩; have n0_ := Aside0.mk (below_step (by repeat (first | (with_reducible first | exact HB.out | apply below_alloc | apply pw_below_drewN | apply below_drew1) | exact HB.out)) hb); clear HB; have HB := n0_; clear n0_; (try clear hb); (try clear hb2); (try clear hk); (try clear hi))); go_ret; exact ⟨by first | rfl | (simp [errW_none, errW_some] <;> rfl) | (simp [*, errW_none, errW_some] <;> rfl), by repeat (first | (with_reducible first | exact HB.out | apply below_alloc | apply pw_below_drewN | apply below_drew1) | exact HB.out)⟩
end Go.Proofs.YthffpkdadffinaaDoor.X
namespace Go.Proofs.YthffpkdadffinaaDoor.Wt
open Go.Proofs.YthffpkdadffinaaDoor.Ux (Bytes full)
open Go.Proofs.YthffpkdadffinaaDoor.Ot (rns)
open Go.RowKit YthffpkdadffinaaDoorW.PrintWords Ev0 X Oa Ob Vp0 Sga Sgb Sgd Sgp Sgq Sgv Sgw Wa Wb Wd Wg Wr
theorem catB_len : ∀ l : List ByteArray, sizes l = (catB l).size := fun l => (catB_size l).symm
theorem sizes_take (l : List ByteArray) (k : Nat) : sizes (l.take k) ≤ sizes l := by
  (have : sizes l = sizes (l.take k) + sizes (l.drop k) := by rw [← sizes_app, List.take_append_drop]); omega
theorem cut_map (b : List Int) : (cutS (full b)).map (·.f0) = Sgt.cutTS (rns b) := by
  unfold rns cutS Sgt.cutTS
  cases full b with
  | nil => rfl
  | cons p t => exact Sgt.cutR_txt t _ _ _
theorem txt_sz (b : List Int) (hB : Bytes b) : (txt (rns b)).size ≤ 12 * b.length := by
  have h := nfd_len b hB; rw [txt_nfd, str_size (nfd_byte b)]; exact h
theorem split_take (lim : Int) (b : List Int) (hB : Bytes b) (hl : b.length ≤ 1048576) : ∃ k, (splitF lim b).1 = (cutS (full b)).take k ∧ sizes ((splitF lim b).1.map (·.f0)) ≤ 13000000 ∧ (splitF lim b).1.length ≤ 13000000 := by
  have hsz : sizes ((cutS (full b)).map (·.f0)) ≤ 13000000 := by
    rw [cut_map, catB_len, cutTS_cat]; have := txt_sz b hB; omega
  have hln := (Sgr.fsize b hB (by omega)).2; by_cases h : lim < 1 ∨ lim > 64
  · refine ⟨0, ?_⟩; unfold splitF; rw [if_pos h]; exact ⟨rfl, by decide, by decide⟩
  · have e := split_cut lim b hB (by omega) (by omega) (by omega); have ht := (Sgz.good_take lim (cutS (full b))).1; have hle := (Sgz.good_take lim (cutS (full b))).2; rw [e]; refine ⟨(goodS lim (cutS (full b))).1.length, ht, ?_, by simp only; omega⟩; simp only; rw [ht, List.map_take]; have := sizes_take ((cutS (full b)).map (·.f0)) (goodS lim (cutS (full b))).1.length; omega
theorem wordsE (lim : Int) (b : List Int) (hB : Bytes b) (hl : b.length ≤ 1048576) : words_Words.f b lim = some (if (splitF lim b).2 = 0 then (wordsF (splitF lim b).1, 0) else ([], (splitF lim b).2)) := by
  obtain ⟨k, -, h2, h3⟩ := split_take lim b hB hl; (have e1 : seg_Split.f b lim = some (splitF lim b) := by unfold seg_Split.f; rw [if_pos ⟨Sgr.bytesB_mk hB, by omega⟩]); unfold words_Words.f; rw [e1]; simp only [Option.bind_some]; by_cases h : (splitF lim b).2 = 0
  · rw [if_pos h, if_pos h]; unfold words_Join.f; rw [if_pos ⟨h2, h3⟩]
    rfl
  · rw [if_neg h, if_neg h]
theorem refWordsEv (lim : Int) (b : List Int) (hB : Bytes b) (hl : b.length ≤ 1048576) : Ev (fun k => tremaref13_Words.f k b lim) (if (splitF lim b).2 = 0 then (wordsF (splitF lim b).1, 0) else ([], (splitF lim b).2)) := by
  obtain ⟨k, -, h2, h3⟩ := split_take lim b hB hl; unfold tremaref13_Words.f; refine Ev.bind (Sgr.splitEv b hB (by omega) lim) ?_; by_cases h : (splitF lim b).2 = 0
  · simp only [if_pos h]; exact Ev.bind (refJoinEv _ h3 h2) (Ev.now _)
  · simp only [if_neg h]; exact Ev.now _
theorem wordsF_len (l : List SG) : (wordsF l).length ≤ l.length := by
  have h3 := (runs_len (inW (l.map (·.f0))) (l.map (·.f0)).length 0).1; unfold wordsF runsT; rw [List.length_map]; rw [List.length_map] at h3 ⊢; exact h3
theorem fixedE : tremalaw13_fixed.f = some true := rfl
theorem WordsTells (l : List Int) (hwf : ∀ x ∈ l, (Lit.int .u8 x).wf = true) (hl : l.length ≤ 1048576) (lim : Int) (hlw : (Lit.int .i64 lim).wf = true) : ∃ k, tremalaw13_WordsTells.f k l lim = some true := by
  have hb := Ot.wf_bytes hwf; obtain ⟨k, -, h2, h3⟩ := split_take lim l hb hl; apply Ev.rounds (g := fun k => tremalaw13_WordsTells.f k l lim); unfold tremalaw13_WordsTells.f; rw [fixedE, wordsE lim l hb hl]; simp only [Option.bind_some, if_true]; refine Ev.bind (refWordsEv lim l hb hl) ?_; obtain ⟨r, hr⟩ : ∃ r, r = (if (splitF lim l).2 = 0 then (wordsF (splitF lim l).1, 0) else ([], (splitF lim l).2)) := ⟨_, rfl⟩
  have hrl : r.1.length ≤ 100000000 := by
    rw [hr]; split
    · have := wordsF_len (splitF lim l).1; simp only; omega
    · simp
  rw [← hr]; simp only [if_true]; exact Ev.bind (sameWEv r.1 hrl) (Ev.now _)
end Go.Proofs.YthffpkdadffinaaDoor.Wt
namespace Go.Proofs.YthffpkdadffinaaDoor.Od
open Go.RowKit YthffpkdadffinaaDoorW.PrintWords Hp Go.ChangeShapes Go.WideShapes
def Opens {α : Type} (P : Program) (t : TypeId) (d : Kd α) (wf : α → Prop) (bulk : α → Nat) : Prop :=
  ∀ (H : Type) (enc : TypeId × Value → H) (w : World) (base : Nat) (spare : Nat → Bool) (held : Bool) (fuel : Nat) (cs : List Value) (x : DataW H × List MemPlace),
    DataW.trod enc P w base spare held fuel t cs = some x → ∃ a, d.K w a cs ∧ wf a ∧ bulk a ≤ Rows.uptoBulk x.1
def sumB {α : Type} (bulk : α → Nat) : List α → Nat
  | [] => 0
  | a :: l => bulk a + sumB bulk l
theorem sumB_len {α : Type} {bulk : α → Nat} (h1 : ∀ a, 1 ≤ bulk a) (l : List α) : l.length ≤ sumB bulk l := by
  induction l with
  | nil => simp [sumB]
  | cons x l ih => simp only [sumB, List.length_cons]; have := h1 x; omega
theorem bulkAll_append {H : Type} (l r : List (DataW H)) : Rows.uptoBulkAll (l ++ r) = Rows.uptoBulkAll l + Rows.uptoBulkAll r := by
  induction l with
  | nil => simp [Rows.uptoBulkAll]
  | cons x l ih => simp only [List.cons_append, Rows.uptoBulkAll, ih]; omega
section
variable {P : Program}
theorem opens_int {t : TypeId} {k : IntKind} (ht : P.underlying t = some (.int k)) : Opens P t (Kd.int k) (fun n => (Lit.int k n).wf = true) (fun _ => 1) := by
  intro H enc w base spare held fuel cs x h; obtain ⟨n, rfl, rfl, hw⟩ := DataW.trod_int ht h; exact ⟨n, rfl, hw, by simp [Rows.uptoBulk]⟩
theorem slice_list {α : Type} {d : Kd α} {wf : α → Prop} {bulk : α → Nat} {e : TypeId} {H : Type} {enc : TypeId × Value → H} {w : World} {base : Nat} {spare : Nat → Bool} {held : Bool} (ho : Opens P e d wf bulk) (hC : P.cellsOf e = d.sz) {a : Addr} {m n : Nat} {D : Nat → DataW H} {Pl : Nat → List MemPlace}
    (hx : ∀ i, i < m → ∃ cs', w.cells? base (a.add (i * P.cellsOf e)) (P.cellsOf e) = some cs' ∧ DataW.trod enc P w base spare held n e cs' = some (D i, Pl i)) (len : Nat) (hl : len ≤ m) (hM : len ≤ 9223372036854775807) :
    ∃ xs : List α, xs.length = len ∧ d.C w (some a) len xs ∧ (∀ x, x ∈ xs → wf x) ∧ sumB bulk xs ≤ Rows.uptoBulkAll ((List.range len).map D) := by
  have key : ∀ k, k ≤ len → ∃ xs : List α, xs.length = k ∧ (∀ j p, xs[j]? = some p → ∃ c, c.length = d.sz ∧ d.K w p c ∧ ∀ i u, c[i]? = some u → w.cell? (a.add (j * d.sz + i)) = some u) ∧ (∀ x, x ∈ xs → wf x) ∧ sumB bulk xs ≤ Rows.uptoBulkAll ((List.range k).map D) := by
    intro k
    induction k with
    | zero => exact fun _ => ⟨[], rfl, by simp, by simp, by simp [sumB]⟩
    | succ k ih =>
      intro hk; obtain ⟨xs, h1, h2, h3, h4⟩ := ih (by omega); obtain ⟨cs', hc, ht⟩ := hx k (by omega); obtain ⟨p, hK, hw, hb⟩ := ho H enc w base spare held n cs' _ ht; obtain ⟨_, hcl, hcell⟩ := World.cells?_some hc; refine ⟨xs ++ [p], by simp [h1], ?_, ?_, ?_⟩
      · intro j q hq; rw [List.getElem?_append] at hq; split at hq
        · exact h2 j q hq
        · rename_i hge; rcases Nat.lt_or_ge (j - xs.length) 1 with h5 | h5
          · (have hj : j = k := by omega); subst hj; rw [h1, Nat.sub_self] at hq; simp at hq; subst hq; refine ⟨cs', by rw [hcl, hC], hK, fun i u hu => ?_⟩; (have hi : i < P.cellsOf e := by rw [← hcl]; exact (List.getElem?_eq_some_iff.1 hu).1); have := hcell i hi; rw [Go.Deep.add_add, hC] at this; rw [this, hu]
          · rw [List.getElem?_eq_none (by simpa using h5)] at hq; cases hq
      · intro x hx; rcases List.mem_append.1 hx with hx | hx
        · exact h3 x hx
        · rw [List.mem_singleton.1 hx]; exact hw
      · have e2 : sumB bulk (xs ++ [p]) = sumB bulk xs + bulk p := by
          clear h1 h2 h3 h4
          induction xs with
          | nil => simp [sumB]
          | cons y ys ih2 => simp only [List.cons_append, sumB, ih2]; omega
        rw [e2, List.range_succ, List.map_append, bulkAll_append]; simp only [List.map_cons, List.map_nil, Rows.uptoBulkAll]; have hb2 : bulk p ≤ Rows.uptoBulk (D k) := hb; omega
  obtain ⟨xs, h1, h2, h3, h4⟩ := key len (Nat.le_refl _); exact ⟨xs, h1, ⟨h1, hM, fun _ => ⟨a, rfl, h2⟩⟩, h3, h4⟩
theorem arg_slice {α : Type} {d : Kd α} {wf : α → Prop} {bulk : α → Nat} {t e : TypeId} (ht : P.underlying t = some (.slice e)) (hC : P.cellsOf e = d.sz) (ho : Opens P e d wf bulk)
    {H : Type} {enc : TypeId × Value → H} {w : World} {base : Nat} {spare : Nat → Bool} {held : Bool} {v : Value} {data : DataW H} {ps : List MemPlace} {r : Reach} {b0 : Nat} (hv : Value.okWide P w r b0 t v) (h : DataW.Trod enc P w base spare held t v data ps) :
    ∃ A xs c, v = .slice A xs.length c ∧ xs.length ≤ c ∧ d.C w A xs.length xs ∧ (∀ x, x ∈ xs → wf x) ∧ sumB bulk xs + 1 ≤ Rows.uptoBulk data ∧
      (∀ (ts : List TypeId) (ds : List (DataW H)) (j B : Nat), (DataW.weightsEach P ts ds).all (· ≤ reachBytes) = true → ts[j]? = some t → ds[j]? = some data → P.bytesOf e = B → xs.length * B ≤ 140737488351232) := by
  obtain ⟨a0, len0, cap0, rfl⟩ := okWide_slice ht hv; obtain ⟨fuel, hf⟩ := h; rcases Go.Deep.open_slice ht hf with ⟨hcs, hx⟩ | ⟨a, len, cap, m, n, D, Pl, hcs, hb, hl, hm, hmm, hx, hi⟩
  · simp [Value.cells] at hcs; obtain ⟨rfl, rfl, rfl⟩ := hcs; obtain ⟨rfl, rfl⟩ := Prod.mk.inj hx; exact ⟨none, [], 0, rfl, Nat.le_refl _, Kd.C_nil d w, by simp, by simp [sumB, Rows.uptoBulk], by simp⟩
  · simp [Value.cells] at hcs; obtain ⟨rfl, rfl, rfl⟩ := hcs; obtain ⟨rfl, rfl⟩ := Prod.mk.inj hx; obtain ⟨xs, h1, h2, h3, h4⟩ := slice_list ho hC hi len0 (by rw [hmm]; split <;> omega) (by simp only [maxLen] at hm; omega); subst h1; refine ⟨some a, xs, cap0, rfl, hl, h2, h3, by simp only [Rows.uptoBulk]; omega, ?_⟩; intro ts ds j B hsz htj hdj hB; have z := sized_slice hsz htj hdj ht; rw [hB] at z; (have hr : reachBytes = 140737488351232 := by decide); simp only [List.length_map, List.length_range] at z; rw [hr] at z; exact Nat.le_trans (Nat.mul_le_mul_right _ (by omega)) z
end
end Go.Proofs.YthffpkdadffinaaDoor.Od
namespace Go.Proofs.YthffpkdadffinaaDoor.Lv
open Go.ChangeShapes Go.WideShapes Go.ChangeAt Go.RowKit YthffpkdadffinaaDoorW.PrintWords Va
theorem ints_of_array {H : Type} {enc : TypeId × Value → H} {P : Program} {w : World} {base : Nat} {sp : Nat → Bool} {held : Bool} {fuel : Nat} {t e : TypeId} {k : IntKind} {n : Nat} {cs : List Value} {l : List Int} {p : List MemPlace}
    (ht : P.underlying t = some (.array n e)) (he : P.underlying e = some (.int k)) (hC : P.cellsOf e = 1) (hT : P.cellsOf t = n) (h : DataW.trod enc P w base sp held fuel t cs = some (.agg (l.map fun x => .lit (.int k x)), p)) : cs = nums k l := by
  obtain ⟨xs, m, -, hx, hl, hxl, hi⟩ := DataW.trod_array ht h; obtain ⟨hx1, -⟩ := Prod.mk.inj hx; injection hx1 with hx1; (have hln : l.length = n := by have := congrArg List.length hx1; simpa [hxl] using this); rw [hT] at hl; unfold nums; (refine List.ext_getElem (by simp [hl, hln]) fun i h1 h2 => ?_); (have hin : i < n := by omega); have hxi := hi i hin; rw [hC, Nat.mul_one, List.getElem?_eq_getElem (by omega : i < xs.length)] at hxi; obtain ⟨z, e1, e2, -⟩ := DataW.trod_int he hxi
  have e3 : (xs[i]'(by omega)).1 = DataW.lit (.int k (l[i]'(by omega))) := by
    have := congrArg (fun q => q[i]?) hx1; simp [List.getElem?_eq_getElem (show i < l.length by omega), List.getElem?_eq_getElem (show i < xs.length by omega)] at this; exact this.symm
  rw [e2] at e3; injection e3 with e3; injection e3 with _ e3
  have e4 : cs[i]'h1 = .int k z := by
    rw [List.drop_eq_getElem_cons h1, List.take_succ_cons, List.take_zero] at e1; exact (List.cons.inj e1).1
  rw [e4, List.getElem_map, e3]
theorem triples_of_array {H : Type} {enc : TypeId × Value → H} {P : Program} {w : World} {base : Nat} {sp : Nat → Bool} {held : Bool} {fuel : Nat} {t e e3 : TypeId} {n : Nat} {cs : List Value} {l : List (Int × Int × Int)} {p : List MemPlace}
    (ht : P.underlying t = some (.array n e)) (he : P.underlying e = some (.array 3 e3)) (he3 : P.underlying e3 = some (.int .i32)) (hC3 : P.cellsOf e3 = 1) (hC : P.cellsOf e = 3) (hT : P.cellsOf t = n * 3) (h : DataW.trod enc P w base sp held fuel t cs = some (.agg (l.map fun x => .agg ([x.1, x.2.1, x.2.2].map fun y => .lit (.int .i32 y))), p)) : cs = cells3 l := by
  obtain ⟨xs, m, -, hx, hl, hxl, hi⟩ := DataW.trod_array ht h; obtain ⟨hx1, -⟩ := Prod.mk.inj hx; injection hx1 with hx1; (have hln : l.length = n := by have := congrArg List.length hx1; simpa [hxl] using this); rw [hT] at hl
  have key : ∀ i (hin : i < l.length), (cs.drop (i * 3)).take 3 = nums .i32 [l[i].1, l[i].2.1, l[i].2.2] := by
    intro i hin; have hxi := hi i (by omega); rw [hC, List.getElem?_eq_getElem (by omega : i < xs.length)] at hxi
    have e3' : (xs[i]'(by omega)).1 = DataW.agg ([l[i].1, l[i].2.1, l[i].2.2].map fun y => .lit (.int .i32 y)) := by
      have := congrArg (fun q => q[i]?) hx1; simp [List.getElem?_eq_getElem (show i < l.length by omega), List.getElem?_eq_getElem (show i < xs.length by omega)] at this; exact this.symm
    rw [show xs[i]'(by omega) = ((xs[i]'(by omega)).1, (xs[i]'(by omega)).2) from rfl, e3'] at hxi; exact ints_of_array he he3 hC3 hC hxi
  clear hi hx1 hx hxl ht h
  have go : ∀ (l : List (Int × Int × Int)) (cs : List Value), cs.length = l.length * 3 → (∀ i (hin : i < l.length), (cs.drop (i * 3)).take 3 = nums .i32 [l[i].1, l[i].2.1, l[i].2.2]) → cs = cells3 l := by
    intro l
    induction l with
    | nil => intro cs h1 _; exact List.eq_nil_of_length_eq_zero (by simpa using h1)
    | cons x r ih =>
      intro cs h1 h2; have h0 := h2 0 (by simp)
      have hr := ih (cs.drop 3) (by rw [List.length_drop, h1]; simp; omega) (fun i hin => by
        have := h2 (i + 1) (by simp; omega); rw [List.drop_drop, show 3 + i * 3 = (i + 1) * 3 by omega]
        exact this)
      rw [Nat.zero_mul, List.drop_zero] at h0; rw [← List.take_append_drop 3 cs, h0, hr]
      rfl
  exact go l cs (by omega) key
abbrev laid : List (String × DataW Unit) := [("trema/ucd.classes", Rows.laid_trema_ucd_classes), ("trema/ucd.pairs", Rows.laid_trema_ucd_pairs), ("trema/ucd.marks", Rows.laid_trema_ucd_marks)]
theorem d0 : (Rows.laid_trema_ucd_classes : DataW Unit) = .agg (clsT.map fun x => .agg ([x.1, x.2.1, x.2.2].map fun y => .lit (.int .i32 y))) := by kernel_rfl
theorem d1 : (Rows.laid_trema_ucd_pairs : DataW Unit) = .agg (prsT.map fun x => .agg ([x.1, x.2.1, x.2.2].map fun y => .lit (.int .i32 y))) := by kernel_rfl
theorem d2 : (Rows.laid_trema_ucd_marks : DataW Unit) = .agg (mksT.map fun y => .lit (.int .i32 y)) := by kernel_rfl
theorem door_met (os : Os) (args : Array Value) : laidMetH Tryd.prog laid ((World.doorLaid Tryd.prog 400 os).forCall (fun _ _ => 0) ⟨#[], args, []⟩).memory :=
  laidMetH_of_parts3 (fuel := 8) (laidMet_of_run' 8 (by kernel_rfl) (by kernel_rfl)) (by kernel_rfl) (by kernel_rfl)
theorem of_laid {W : World} (h : laidMetH Tryd.prog laid W) : G W := by
  rw [MakeChecks.laidMetH_plain _ _ _ (by kernel_rfl)] at h; obtain ⟨ps, ⟨g0, t0, cs0, f0, p0, q0, hg0, ht0, hv0, hd0, ⟨g1, t1, cs1, f1, p1, q1, hg1, ht1, hv1, hd1, ⟨g2, t2, cs2, f2, p2, q2, hg2, ht2, hv2, hd2, _, _⟩, _⟩, _⟩, _, _⟩ := h; obtain rfl := Option.some.inj ((show Tryd.prog.globalNamed "trema/ucd.classes" = some 1 by kernel_rfl).symm.trans hg0); obtain rfl := Option.some.inj ((show Tryd.prog.globalNamed "trema/ucd.pairs" = some 0 by kernel_rfl).symm.trans hg1); obtain rfl := Option.some.inj ((show Tryd.prog.globalNamed "trema/ucd.marks" = some 2 by kernel_rfl).symm.trans hg2); obtain rfl := Option.some.inj ((show (Tryd.prog.globals[1]?).map (·.type) = some 113 by kernel_rfl).symm.trans ht0); obtain rfl := Option.some.inj ((show (Tryd.prog.globals[0]?).map (·.type) = some 111 by kernel_rfl).symm.trans ht1); obtain rfl := Option.some.inj ((show (Tryd.prog.globals[2]?).map (·.type) = some 123 by kernel_rfl).symm.trans ht2); rw [d0] at hd0; rw [d1] at hd1; rw [d2] at hd2; have c0 := triples_of_array Tryd.underlying113 Tryd.underlying110 Tryd.underlying21 (by kernel_rfl) (by kernel_rfl) (by kernel_rfl) hd0; have c1 := triples_of_array Tryd.underlying111 Tryd.underlying110 Tryd.underlying21 (by kernel_rfl) (by kernel_rfl) (by kernel_rfl) hd1; have c2 := ints_of_array Tryd.underlying123 Tryd.underlying21 (by kernel_rfl) (by kernel_rfl) hd2; refine ⟨fun j v hv => ?_, fun j v hv => ?_, fun j v hv => ?_⟩
  · have := World.var?_cell hg0 hv0 j; rw [← Array.getElem?_toList, c0, hv] at this
    simpa using this
  · have := World.var?_cell hg1 hv1 j; rw [← Array.getElem?_toList, c1, hv] at this
    simpa using this
  · have := World.var?_cell hg2 hv2 j; rw [← Array.getElem?_toList, c2, hv] at this
    simpa using this
end Go.Proofs.YthffpkdadffinaaDoor.Lv
namespace Go.Proofs.YthffpkdadffinaaDoor.wordsTells
open Go.ChangeShapes Go.WideShapes Go.ChangeAt Go.RowKit
open Go.ChangeMaps (open_string shut_string)
theorem own : ownKnob Tryd.prog.godebug = none := by kernel_rfl
theorem laidOut : laidOutB Tryd.prog = true := by kernel_rfl
set_option maxRecDepth 100000 in
theorem contract (H : Type) (enc : TypeId × Value → H) (W : World) (base : Nat) (args : Array Value) (ds gs : List (DataW H)) (before : List MemPlace)
    (hval0 : ∀ (j : Nat) t v, Tryd.f6.params[j]? = some t → args[j]? = some v → Value.okWide Tryd.prog W .any base t v)
    (hW : DataW.Whole enc Tryd.prog Tryd.f6.params.toList Rows.wordsTellsSpec.vars false W args.toList ds gs before)
    (hL : laidMetH Tryd.prog Lv.laid W)
    (hk0 : Rows.uptoSmall H (ds ++ gs) = true) :
    Calls Tryd.prog 6 args W fun e W' => ∃ v, e = .returned v ∧ Rows.wordsTellsSpec.post enc Tryd.prog Tryd.f6 false true false false W args v W' := by
  have hkb : Rows.uptoBulkAll (ds ++ gs) ≤ 1048576 := of_decide_eq_true hk0; have hval : ∀ (j : Nat) t v, Tryd.f6.params[j]? = some t → args[j]? = some v → Value.okWide Tryd.prog W .any base t v := hval0; have hW' := hW; obtain ⟨p, q, hA0, hV, rfl, hfz, hnd⟩ := hW; have hA : DataW.TrodAll enc Tryd.prog W 0 (fun _ => true) true Tryd.f6.params.toList args.toList ds p := hA0; rw [Tryd.params6] at hA hval; obtain ⟨v0, vs0, d0, ds0, p0, q0, hargs, rfl, rfl, h0, r0⟩ := trodAll_cons hA; obtain ⟨v1, vs1, d1, ds1, p1, q1, rfl, rfl, rfl, h1, r1⟩ := trodAll_cons r0; obtain ⟨rfl, rfl, rfl⟩ := trodAll_nil r1; (obtain rfl : args = #[v0, v1] := by cases args; simp_all); obtain ⟨rfl, rfl⟩ := trodVars_none hV; have k0 := h0; (have lt0 : ∀ x ∈ p0, x.block < W.heap.size := by obtain ⟨m, hm⟩ := k0; exact DataW.trod_lt m _ _ _ hm); obtain ⟨A0, xs0, c0, rfl, hc0, hC0, hw0, hb0, hz0⟩ := Od.arg_slice Tryd.underlying23 (by kernel_rfl) (Od.opens_int Tryd.underlying5) (hval 0 23 v0 rfl rfl) h0; obtain ⟨a1, rfl, rfl, rfl, w1⟩ := open_int Tryd.underlying3 (hval 1 3 v1 rfl rfl) h1; simp only [List.append_nil, Rows.uptoBulkAll] at hkb; have hB0 := Nat.le_trans (Nat.le_trans (Nat.le_succ _) hb0) (show Rows.uptoBulk d0 ≤ 1048576 by omega); clear hA0 hval0 hk0; obtain ⟨k, hk⟩ := Go.Proofs.YthffpkdadffinaaDoor.Wt.WordsTells xs0 hw0 (Nat.le_trans (Od.sumB_len (fun _ => Nat.le_refl _) _) hB0) a1 w1; (refine (Go.Proofs.YthffpkdadffinaaDoor.X.tremalaw13_WordsTells.calls k A0 c0 xs0 a1 true W hC0 hc0 hk (Lv.of_laid hL)).mono fun e W' ⟨he, bel⟩ => ?_); subst he; exact ⟨_, rfl, _, _, _, [], _, [], hW', trodAll_mk1 (shut_bool Tryd.underlying4 _), (trodAll_cons_mk (Below.trod laidOut (by kernel_rfl) (of_decide_eq_true (by kernel_rfl)) k0 bel lt0) (trodAll_cons_mk (shut_int Tryd.underlying3 w1) trodAll_mk0)), rfl, bel.frame _, fun h => by cases h⟩
set_option maxRecDepth 100000 in
theorem lifted (os : Os) (started : os.Started) (H : Type) (enc : TypeId × Value → H) (F : Stop.Interp) :
    ReturnsInHanded {} Tryd.checked os 6 .any ((Rows.OpenSpec.upto Rows.wordsTellsSpec).preRow enc Tryd.prog Tryd.f6 Rows.wordsTellsUptoRow.domain false Rows.wordsTellsUptoRow.laid) (((Rows.OpenSpec.upto Rows.wordsTellsSpec).at F).post enc Tryd.prog Tryd.f6 false true false false) := by
  refine returnsInHanded_of_row (C := Tryd.checked) (s := Rows.OpenSpec.upto Rows.wordsTellsSpec) own started (by kernel_rfl) Tryd.func6
    (witness_row_atRef (enc := enc) (C := Tryd.checked) false (World.doorLaid Tryd.prog 400 os) #[(.slice none 0 0), (.int .i64 0)] rfl (by kernel_rfl) (by kernel_rfl) (by kernel_rfl)
      (OpenSpec.preRow_of_cond (x := ([.nil, .lit (.int .i64 0)], [], [])) 8 (by kernel_rfl) (by kernel_rfl) (fun k hk => by cases hk; kernel_rfl) (by kernel_rfl) (Lv.door_met os _))) ?_
  intro W base args ds gs before hval hW _ hcond _ hL _ _; exact contract H enc W base args ds gs before hval hW hL (hcond _ rfl)
theorem proved : Rows.WordsTellsUptoSaid :=
  OpenClaim.holds_of_cond 6 Tryd.f6 rfl rfl rfl rfl rfl rfl rfl ⟨rfl, rfl, rfl, rfl, rfl⟩ rfl rfl rfl rfl rfl (by kernel_rfl) Tryd.func6 (by kernel_rfl)
    (of_decide_eq_true (by kernel_rfl)) (by unfold Func.isWrapper; first | (rw [if_pos (by decide +kernel)]; kernel_rfl) | (rw [if_neg (by decide +kernel)]; exact ⟨rfl, rfl⟩))
    (fun os started H enc _ F => by rw [OpenClaim.pre_eq_preRow]; exact lifted os started H enc F)
end Go.Proofs.YthffpkdadffinaaDoor.wordsTells
namespace Go.Proofs.YthffpkdadffinaaDoor
theorem wordsTells_holds : Rows.WordsTellsUptoCardSaid :=
  Claim7.holds_tied_plain_at .later [] [.data, .data, .data] true (true, "40dec18509303b2ee17917badb52d4e1cd75dc8afa2e2cbc1ad49e1a0b909216") false
    wordsTells.proved (fun _ h => by cases h) (by kernel_rfl) (fun _ h => by cases h) wordsTellsUpto_row_tie rfl ⟨rfl, rfl⟩ (by kernel_rfl) rfl
    (fun f fn hf hfn => by
      obtain rfl : f = 6 := Option.some.inj ((show Tryd.prog.funcNamed "trema/tremalaw13.WordsTells" = some 6 by kernel_rfl).symm.trans hf) |>.symm; obtain rfl : fn = Tryd.f6 := (Option.some.inj (Tryd.func6.symm.trans hfn)).symm
      exact ⟨by kernel_rfl, fun j t ht => by
        rw [Tryd.params6] at ht; (have hm : t ∈ [23, 3] := by simpa using Array.mem_of_getElem? ht); have hall : ([23, 3].all fun u => !Tryd.prog.wantsStandIn u) = true := by kernel_rfl
        exact (show Tryd.prog.wantsStandIn t = false by simpa using List.all_eq_true.1 hall t hm)⟩)
    (by kernel_rfl)
#print axioms wordsTells_holds
end Go.Proofs.YthffpkdadffinaaDoor
