/-
  Several texts of this claim in one: what its law's proof uses.
-/
import Derived.Test.YthffpkdadffinaaDoorMWK18
import Derived.Test.YthffpkdadffinaaDoorRows
import Derived.Test.YthffpkdadffinaaDoorMWK19
import Derived.Test.YthffpkdadffinaaDoorTie
import Derived.Test.YthffpkdadffinaaDoorCards
import Derived.WalkKit
import Derived.ProofKit
import Derived.OpenShut
import Derived.ShutString
import Derived.ChangeOld
import Derived.Below
import Derived.SizedLaws
import Derived.JoinedCond
import Derived.SevenTiedAt
import Derived.LaidMore
import Derived.Stop.Joined
import Derived.Deep.DeepHandedRow
import Derived.Deep.DeepWitnessRowRef
namespace Go.Proofs.YthffpkdadffinaaDoor.wordsKeys
open Go.ChangeShapes Go.WideShapes Go.ChangeAt Go.RowKit
open Go.ChangeMaps (open_string shut_string)
set_option linter.unusedVariables false
set_option linter.unusedSimpArgs false
theorem own : ownKnob Tryd.prog.godebug = none := by kernel_rfl
theorem laidOut : laidOutB Tryd.prog = true := by kernel_rfl
set_option maxRecDepth 100000 in
theorem contract (H : Type) (enc : TypeId × Value → H) (W : World) (base : Nat) (args : Array Value) (ds gs : List (DataW H)) (before : List MemPlace)
    (hval0 : ∀ (j : Nat) t v, Tryd.f8.params[j]? = some t → args[j]? = some v → Value.okWide Tryd.prog W .any base t v)
    (hW : DataW.Whole enc Tryd.prog Tryd.f8.params.toList Rows.wordsKeysSpec.vars false W args.toList ds gs before)
    (hL : laidMetH Tryd.prog Lv.laid W)
    (hk0 : Rows.uptoSmall H (ds ++ gs) = true) :
    Calls Tryd.prog 8 args W fun e W' => ∃ v, e = .returned v ∧ Rows.wordsKeysSpec.post enc Tryd.prog Tryd.f8 false true false false W args v W' := by
  have hkb : Rows.uptoBulkAll (ds ++ gs) ≤ 1048576 := of_decide_eq_true hk0; have hval : ∀ (j : Nat) t v, Tryd.f8.params[j]? = some t → args[j]? = some v → Value.okWide Tryd.prog W .any base t v := hval0; have hW' := hW; obtain ⟨p, q, hA0, hV, rfl, hfz, hnd⟩ := hW; have hA : DataW.TrodAll enc Tryd.prog W 0 (fun _ => true) true Tryd.f8.params.toList args.toList ds p := hA0; rw [Tryd.params8] at hA hval; obtain ⟨v0, vs0, d0, ds0, p0, q0, hargs, rfl, rfl, h0, r0⟩ := trodAll_cons hA; obtain ⟨v1, vs1, d1, ds1, p1, q1, rfl, rfl, rfl, h1, r1⟩ := trodAll_cons r0; obtain ⟨rfl, rfl, rfl⟩ := trodAll_nil r1; (obtain rfl : args = #[v0, v1] := by cases args; simp_all); obtain ⟨rfl, rfl⟩ := trodVars_none hV; have k0 := h0; (have lt0 : ∀ x ∈ p0, x.block < W.heap.size := by obtain ⟨m, hm⟩ := k0; exact DataW.trod_lt m _ _ _ hm); obtain ⟨A0, xs0, c0, rfl, hc0, hC0, hw0, hb0, hz0⟩ := Od.arg_slice Tryd.underlying23 (by kernel_rfl) (Od.opens_int Tryd.underlying5) (hval 0 23 v0 rfl rfl) h0; have k1 := h1; (have lt1 : ∀ x ∈ p1, x.block < W.heap.size := by obtain ⟨m, hm⟩ := k1; exact DataW.trod_lt m _ _ _ hm); obtain ⟨A1, xs1, c1, rfl, hc1, hC1, hw1, hb1, hz1⟩ := Od.arg_slice Tryd.underlying23 (by kernel_rfl) (Od.opens_int Tryd.underlying5) (hval 1 23 v1 rfl rfl) h1; simp only [List.append_nil, Rows.uptoBulkAll] at hkb; have hB0 := Nat.le_trans (Nat.le_trans (Nat.le_succ _) hb0) (show Rows.uptoBulk d0 ≤ 1048576 by omega); have hB1 := Nat.le_trans (Nat.le_trans (Nat.le_succ _) hb1) (show Rows.uptoBulk d1 ≤ 1048576 by omega); clear hA0 hval0 hk0; have hk := Go.Proofs.YthffpkdadffinaaDoor.X.tremalaw13_WordsKeys.pure xs0 hw0 (Nat.le_trans (Od.sumB_len (fun _ => Nat.le_refl _) _) hB0) xs1 hw1 (Nat.le_trans (Od.sumB_len (fun _ => Nat.le_refl _) _) hB1); (refine (Go.Proofs.YthffpkdadffinaaDoor.X.tremalaw13_WordsKeys.calls A0 c0 xs0 A1 c1 xs1 true W hC0 hc0 hC1 hc1 hk (Lv.of_laid hL)).mono fun e W' ⟨he, bel⟩ => ?_); subst he; exact ⟨_, rfl, _, _, _, [], _, [], hW', trodAll_mk1 (shut_bool Tryd.underlying4 _), (trodAll_cons_mk (Below.trod laidOut (by kernel_rfl) (of_decide_eq_true (by kernel_rfl)) k0 bel lt0) (trodAll_cons_mk (Below.trod laidOut (by kernel_rfl) (of_decide_eq_true (by kernel_rfl)) k1 bel lt1) trodAll_mk0)), rfl, bel.frame _, fun h => by cases h⟩
set_option maxRecDepth 100000 in
theorem lifted (os : Os) (started : os.Started) (H : Type) (enc : TypeId × Value → H) (F : Stop.Interp) :
    ReturnsInHanded {} Tryd.checked os 8 .any ((Rows.OpenSpec.upto Rows.wordsKeysSpec).preRow enc Tryd.prog Tryd.f8 Rows.wordsKeysUptoRow.domain false Rows.wordsKeysUptoRow.laid) (((Rows.OpenSpec.upto Rows.wordsKeysSpec).at F).post enc Tryd.prog Tryd.f8 false true false false) := by
  refine returnsInHanded_of_row (C := Tryd.checked) (s := Rows.OpenSpec.upto Rows.wordsKeysSpec) own started (by kernel_rfl) Tryd.func8
    (witness_row_atRef (enc := enc) (C := Tryd.checked) false (World.doorLaid Tryd.prog 400 os) #[(.slice none 0 0), (.slice none 0 0)] rfl (by kernel_rfl) (by kernel_rfl) (by kernel_rfl)
      (OpenSpec.preRow_of_cond (x := ([.nil, .nil], [], [])) 8 (by kernel_rfl) (by kernel_rfl) (fun k hk => by cases hk; kernel_rfl) (by kernel_rfl) (Lv.door_met os _))) ?_
  intro W base args ds gs before hval hW _ hcond _ hL _ _; exact contract H enc W base args ds gs before hval hW hL (hcond _ rfl)
theorem proved : Rows.WordsKeysUptoSaid :=
  OpenClaim.holds_of_cond 8 Tryd.f8 rfl rfl rfl rfl rfl rfl rfl ⟨rfl, rfl, rfl, rfl, rfl⟩ rfl rfl rfl rfl rfl (by kernel_rfl) Tryd.func8 (by kernel_rfl)
    (of_decide_eq_true (by kernel_rfl)) (by unfold Func.isWrapper; first | (rw [if_pos (by decide +kernel)]; kernel_rfl) | (rw [if_neg (by decide +kernel)]; exact ⟨rfl, rfl⟩))
    (fun os started H enc _ F => by rw [OpenClaim.pre_eq_preRow]; exact lifted os started H enc F)
end Go.Proofs.YthffpkdadffinaaDoor.wordsKeys
namespace Go.Proofs.YthffpkdadffinaaDoor
theorem wordsKeys_holds : Rows.WordsKeysUptoCardSaid :=
  Claim7.holds_tied_plain_at .later [] [.data, .data, .data] true (true, "40dec18509303b2ee17917badb52d4e1cd75dc8afa2e2cbc1ad49e1a0b909216") false
    wordsKeys.proved (fun _ h => by cases h) (by kernel_rfl) (fun _ h => by cases h) wordsKeysUpto_row_tie rfl ⟨rfl, rfl⟩ (by kernel_rfl) rfl
    (fun f fn hf hfn => by
      obtain rfl : f = 8 := Option.some.inj ((show Tryd.prog.funcNamed "trema/tremalaw13.WordsKeys" = some 8 by kernel_rfl).symm.trans hf) |>.symm; obtain rfl : fn = Tryd.f8 := (Option.some.inj (Tryd.func8.symm.trans hfn)).symm
      exact ⟨by kernel_rfl, fun j t ht => by
        rw [Tryd.params8] at ht; (have hm : t ∈ [23, 23] := by simpa using Array.mem_of_getElem? ht); have hall : ([23, 23].all fun u => !Tryd.prog.wantsStandIn u) = true := by kernel_rfl
        exact (show Tryd.prog.wantsStandIn t = false by simpa using List.all_eq_true.1 hall t hm)⟩)
    (by kernel_rfl)
#print axioms wordsKeys_holds
end Go.Proofs.YthffpkdadffinaaDoor
