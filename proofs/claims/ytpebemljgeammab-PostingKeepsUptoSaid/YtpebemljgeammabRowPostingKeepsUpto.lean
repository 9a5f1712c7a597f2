/-
  PostingKeeps: for every input the law returns true and its arguments read as before (arguments of bulk at most 1048576).
-/
import Derived.Test.YtpebemljgeammabPx
import Derived.Test.YtpebemljgeammabRows
import Derived.Test.YtpebemljgeammabOd
import Derived.WalkKit
import Derived.ProofKit
import Derived.OpenShut
import Derived.ShutString
import Derived.ChangeOld
import Derived.Below
import Derived.SizedLaws
import Derived.JoinedCond
namespace Go.Proofs.Ytpebemljgeammab.postingKeeps
open Go.ChangeShapes Go.WideShapes Go.ChangeAt Go.RowKit
open Go.ChangeMaps (open_string shut_string)
set_option linter.unusedVariables false
set_option linter.unusedSimpArgs false
theorem own : ownKnob Try.prog.godebug = none := by kernel_rfl
theorem laidOut : laidOutB Try.prog = true := by kernel_rfl
set_option maxRecDepth 100000 in
theorem contract (H : Type) (enc : TypeId × Value → H) (W : World) (base : Nat) (args : Array Value) (ds gs : List (DataW H)) (before : List MemPlace)
    (hval0 : ∀ (j : Nat) t v, Try.f5.params[j]? = some t → args[j]? = some v → Value.okWide Try.prog W .any base t v)
    (hW : DataW.Whole enc Try.prog Try.f5.params.toList Rows.postingKeepsSpec.vars false W args.toList ds gs before)
    (hk0 : Rows.uptoSmall H (ds ++ gs) = true) :
    Calls Try.prog 5 args W fun e W' => ∃ v, e = .returned v ∧ Rows.postingKeepsSpec.post enc Try.prog Try.f5 false true false false W args v W' := by
  have hk : Rows.uptoBulkAll (ds ++ gs) ≤ 1048576 := of_decide_eq_true hk0
  have hval : ∀ (j : Nat) t v, Try.f5.params[j]? = some t → args[j]? = some v → Value.okWide Try.prog W .any base t v := hval0
  have hW' := hW
  obtain ⟨p, q, hA0, hV, rfl, hfz, hnd⟩ := hW
  have hA : DataW.TrodAll enc Try.prog W 0 (fun _ => true) true Try.f5.params.toList args.toList ds p := hA0
  rw [Try.params5] at hA hval
  obtain ⟨v0, vs0, d0, ds0, p0, q0, hargs, rfl, rfl, h0, r0⟩ := trodAll_cons hA
  obtain ⟨v1, vs1, d1, ds1, p1, q1, rfl, rfl, rfl, h1, r1⟩ := trodAll_cons r0
  obtain ⟨rfl, rfl, rfl⟩ := trodAll_nil r1
  obtain rfl : args = #[v0, v1] := by cases args; simp_all
  obtain ⟨rfl, rfl⟩ := trodVars_none hV
  have k0 := h0
  have lt0 : ∀ x ∈ p0, x.block < W.heap.size := by obtain ⟨m, hm⟩ := k0; exact DataW.trod_lt m _ _ _ hm
  obtain ⟨A0, xs0, c0, rfl, hc0, hC0, hw0, hb0, hz0⟩ := Od.arg_slice Try.underlying24 (by kernel_rfl) (Od.opens_struct2 Try.underlying42 rfl rfl rfl rfl rfl (by kernel_rfl) (by kernel_rfl) (by kernel_rfl) (Od.opens_int Try.underlying3) (Od.opens_slice Try.underlying40 (by kernel_rfl) (Od.opens_int Try.underlying3))) (hval 0 24 v0 rfl rfl) h0
  have k1 := h1
  have lt1 : ∀ x ∈ p1, x.block < W.heap.size := by obtain ⟨m, hm⟩ := k1; exact DataW.trod_lt m _ _ _ hm
  obtain ⟨A1, xs1, c1, rfl, hc1, hC1, hw1, hb1, hz1⟩ := Od.arg_slice Try.underlying22 (by kernel_rfl) (Od.opens_int Try.underlying5) (hval 1 22 v1 rfl rfl) h1
  simp only [List.append_nil, Rows.uptoBulkAll] at hk
  have hB0 := Nat.le_trans (Nat.le_trans (Nat.le_succ _) hb0) (show Rows.uptoBulk d0 ≤ 1048576 by omega)
  have hB1 := Nat.le_trans (Nat.le_trans (Nat.le_succ _) hb1) (show Rows.uptoBulk d1 ≤ 1048576 by omega)
  clear hA0 hval0 hk0
  refine (Go.Proofs.Ytpebemljgeammab.Px.walk W A0 xs0 c0 hC0 hc0 hw0 hB0 A1 xs1 c1 hC1 hc1 hw1 hB1).mono fun e W' ⟨he, bel⟩ => ?_
  subst he
  exact ⟨_, rfl, _, _, _, [], _, [], hW', trodAll_mk1 (shut_bool Try.underlying4 _), (trodAll_cons_mk (Below.trod laidOut (by kernel_rfl) (of_decide_eq_true (by kernel_rfl)) k0 bel lt0) (trodAll_cons_mk (Below.trod laidOut (by kernel_rfl) (of_decide_eq_true (by kernel_rfl)) k1 bel lt1) trodAll_mk0)), rfl, bel.frame _, fun h => by cases h⟩
set_option maxRecDepth 100000 in
theorem lifted (os : Os) (started : os.Started) (H : Type) (enc : TypeId × Value → H) (F : Stop.Interp) :
    ReturnsInHanded {} Try.checked os 5 .any ((Rows.OpenSpec.upto Rows.postingKeepsSpec).pre6 enc Try.prog Try.f5 Rows.postingKeepsUptoRow.domain false) (((Rows.OpenSpec.upto Rows.postingKeepsSpec).at F).post enc Try.prog Try.f5 false true false false) := by
  refine returnsInHanded_of_cond (C := Try.checked) (s := Rows.OpenSpec.upto Rows.postingKeepsSpec) (k := Rows.uptoSmall) rfl own started (by kernel_rfl) Try.func5
    (OpenSpec.witness (enc := enc) (C := Try.checked) (s := Rows.OpenSpec.upto Rows.postingKeepsSpec) (k := Rows.uptoSmall) rfl false ⟨#[], #[(.slice none 0 0), (.slice none 0 0)], []⟩ 8 (by kernel_rfl) (by kernel_rfl) (by kernel_rfl)
      (x := ([.nil, .nil], [], [])) (by kernel_rfl) rfl (by kernel_rfl)) ?_
  intro W base args ds gs before hval hW _ hk _
  exact contract H enc W base args ds gs before hval hW hk
theorem proved : Rows.PostingKeepsUptoSaid :=
  OpenClaim.holds_of_cond 5 Try.f5 rfl rfl rfl rfl rfl rfl rfl ⟨rfl, rfl, rfl, rfl, rfl⟩ rfl rfl rfl rfl rfl (by kernel_rfl) Try.func5 (by kernel_rfl)
    (of_decide_eq_true (by kernel_rfl)) (by unfold Func.isWrapper; first | (rw [if_pos (by decide +kernel)]; kernel_rfl) | (rw [if_neg (by decide +kernel)]; exact ⟨rfl, rfl⟩))
    (fun os started H enc _ F => lifted os started H enc F)
end Go.Proofs.Ytpebemljgeammab.postingKeeps
namespace Go.Proofs.Ytpebemljgeammab
theorem postingKeeps_holds : Rows.PostingKeepsUptoSaid := postingKeeps.proved
#print axioms postingKeeps_holds
end Go.Proofs.Ytpebemljgeammab
