/-
  Several texts of this claim in one: what its law's proof uses.
-/
import Derived.Test.YthffpkdadffinaaDoorRows
import Derived.Test.YthffpkdadffinaaDoorMUR2
import Derived.ProofKit
import Derived.LaidMore
import Derived.OpenShut
import Derived.Stop.Joined
import Derived.Test.YthffpkdadffinaaDoorMUR8
import Derived.Test.YthffpkdadffinaaDoorTie
import Derived.Test.YthffpkdadffinaaDoorCards
import Derived.WalkKit
import Derived.ShutString
import Derived.ChangeOld
import Derived.Below
import Derived.SizedLaws
import Derived.JoinedCond
import Derived.SevenTiedAt
import Derived.Deep.DeepHandedRow
import Derived.Deep.DeepWitnessRowRef
namespace Go.Proofs.YthffpkdadffinaaDoor.Lv
set_option linter.unusedVariables false
set_option linter.unusedSimpArgs false
open Go.ChangeShapes Go.WideShapes Go.ChangeAt Go.RowKit Go.Proofs.YthffpkdadffinaaDoorW.PrintWords Go.Proofs.YthffpkdadffinaaDoor.Va
theorem ints_of_array {H : Type} {enc : TypeId × Value → H} {P : Program} {w : World} {base : Nat} {sp : Nat → Bool} {held : Bool} {fuel : Nat} {t e : TypeId} {k : IntKind} {n : Nat} {cs : List Value} {l : List Int} {p : List MemPlace}
    (ht : P.underlying t = some (.array n e)) (he : P.underlying e = some (.int k)) (hC : P.cellsOf e = 1) (hT : P.cellsOf t = n) (h : DataW.trod enc P w base sp held fuel t cs = some (.agg (l.map fun x => .lit (.int k x)), p)) : cs = nums k l := by
  obtain ⟨xs, m, -, hx, hl, hxl, hi⟩ := DataW.trod_array ht h
  obtain ⟨hx1, -⟩ := Prod.mk.inj hx
  injection hx1 with hx1
  have hln : l.length = n := by have := congrArg List.length hx1; simpa [hxl] using this
  rw [hT] at hl
  unfold nums
  refine List.ext_getElem (by simp [hl, hln]) fun i h1 h2 => ?_
  have hin : i < n := by omega
  have hxi := hi i hin
  rw [hC, Nat.mul_one, List.getElem?_eq_getElem (by omega : i < xs.length)] at hxi
  obtain ⟨z, e1, e2, -⟩ := DataW.trod_int he hxi
  have e3 : (xs[i]'(by omega)).1 = DataW.lit (.int k (l[i]'(by omega))) := by
    have := congrArg (fun q => q[i]?) hx1
    simp [List.getElem?_eq_getElem (show i < l.length by omega), List.getElem?_eq_getElem (show i < xs.length by omega)] at this
    exact this.symm
  rw [e2] at e3
  injection e3 with e3
  injection e3 with _ e3
  have e4 : cs[i]'h1 = .int k z := by
    rw [List.drop_eq_getElem_cons h1, List.take_succ_cons, List.take_zero] at e1
    exact (List.cons.inj e1).1
  rw [e4, List.getElem_map, e3]
theorem triples_of_array {H : Type} {enc : TypeId × Value → H} {P : Program} {w : World} {base : Nat} {sp : Nat → Bool} {held : Bool} {fuel : Nat} {t e e3 : TypeId} {n : Nat} {cs : List Value} {l : List (Int × Int × Int)} {p : List MemPlace}
    (ht : P.underlying t = some (.array n e)) (he : P.underlying e = some (.array 3 e3)) (he3 : P.underlying e3 = some (.int .i32)) (hC3 : P.cellsOf e3 = 1) (hC : P.cellsOf e = 3) (hT : P.cellsOf t = n * 3) (h : DataW.trod enc P w base sp held fuel t cs = some (.agg (l.map fun x => .agg ([x.1, x.2.1, x.2.2].map fun y => .lit (.int .i32 y))), p)) : cs = cells3 l := by
  obtain ⟨xs, m, -, hx, hl, hxl, hi⟩ := DataW.trod_array ht h
  obtain ⟨hx1, -⟩ := Prod.mk.inj hx
  injection hx1 with hx1
  have hln : l.length = n := by have := congrArg List.length hx1; simpa [hxl] using this
  rw [hT] at hl
  have key : ∀ i (hin : i < l.length), (cs.drop (i * 3)).take 3 = nums .i32 [l[i].1, l[i].2.1, l[i].2.2] := by
    intro i hin
    have hxi := hi i (by omega)
    rw [hC, List.getElem?_eq_getElem (by omega : i < xs.length)] at hxi
    have e3' : (xs[i]'(by omega)).1 = DataW.agg ([l[i].1, l[i].2.1, l[i].2.2].map fun y => .lit (.int .i32 y)) := by
      have := congrArg (fun q => q[i]?) hx1
      simp [List.getElem?_eq_getElem (show i < l.length by omega), List.getElem?_eq_getElem (show i < xs.length by omega)] at this
      exact this.symm
    rw [show xs[i]'(by omega) = ((xs[i]'(by omega)).1, (xs[i]'(by omega)).2) from rfl, e3'] at hxi
    exact ints_of_array he he3 hC3 hC hxi
  clear hi hx1 hx hxl ht h
  have go : ∀ (l : List (Int × Int × Int)) (cs : List Value), cs.length = l.length * 3 → (∀ i (hin : i < l.length), (cs.drop (i * 3)).take 3 = nums .i32 [l[i].1, l[i].2.1, l[i].2.2]) → cs = cells3 l := by
    intro l
    induction l with
    | nil => intro cs h1 _; exact List.eq_nil_of_length_eq_zero (by simpa using h1)
    | cons x r ih =>
      intro cs h1 h2
      have h0 := h2 0 (by simp)
      have hr := ih (cs.drop 3) (by rw [List.length_drop, h1]; simp; omega) (fun i hin => by
        have := h2 (i + 1) (by simp; omega)
        rw [List.drop_drop, show 3 + i * 3 = (i + 1) * 3 by omega]
        exact this)
      rw [Nat.zero_mul, List.drop_zero] at h0
      rw [← List.take_append_drop 3 cs, h0, hr]
      rfl
  exact go l cs (by omega) key
abbrev laid : List (String × DataW Unit) := [("trema/ucd.classes", Rows.laid_trema_ucd_classes), ("trema/ucd.pairs", Rows.laid_trema_ucd_pairs), ("trema/ucd.marks", Rows.laid_trema_ucd_marks)]
theorem d0 : (Rows.laid_trema_ucd_classes : DataW Unit) = .agg (clsT.map fun x => .agg ([x.1, x.2.1, x.2.2].map fun y => .lit (.int .i32 y))) := by kernel_rfl
theorem d1 : (Rows.laid_trema_ucd_pairs : DataW Unit) = .agg (prsT.map fun x => .agg ([x.1, x.2.1, x.2.2].map fun y => .lit (.int .i32 y))) := by kernel_rfl
theorem d2 : (Rows.laid_trema_ucd_marks : DataW Unit) = .agg (mksT.map fun y => .lit (.int .i32 y)) := by kernel_rfl
theorem door_met (os : Os) (args : Array Value) : laidMetH Tryd.prog laid ((World.doorLaid Tryd.prog 400 os).forCall (fun _ _ => 0) ⟨#[], args, []⟩).memory :=
  laidMetH_of_parts3 (fuel := 8) (laidMet_of_run' 8 (by kernel_rfl) (by kernel_rfl)) (by kernel_rfl) (by kernel_rfl)
theorem of_laid {W : World} (h : laidMetH Tryd.prog laid W) : G W := by
  rw [MakeChecks.laidMetH_plain _ _ _ (by kernel_rfl)] at h
  obtain ⟨ps, ⟨g0, t0, cs0, f0, p0, q0, hg0, ht0, hv0, hd0, ⟨g1, t1, cs1, f1, p1, q1, hg1, ht1, hv1, hd1, ⟨g2, t2, cs2, f2, p2, q2, hg2, ht2, hv2, hd2, _, _⟩, _⟩, _⟩, _, _⟩ := h
  obtain rfl := Option.some.inj ((show Tryd.prog.globalNamed "trema/ucd.classes" = some 1 by kernel_rfl).symm.trans hg0)
  obtain rfl := Option.some.inj ((show Tryd.prog.globalNamed "trema/ucd.pairs" = some 0 by kernel_rfl).symm.trans hg1)
  obtain rfl := Option.some.inj ((show Tryd.prog.globalNamed "trema/ucd.marks" = some 2 by kernel_rfl).symm.trans hg2)
  obtain rfl := Option.some.inj ((show (Tryd.prog.globals[1]?).map (·.type) = some 113 by kernel_rfl).symm.trans ht0)
  obtain rfl := Option.some.inj ((show (Tryd.prog.globals[0]?).map (·.type) = some 111 by kernel_rfl).symm.trans ht1)
  obtain rfl := Option.some.inj ((show (Tryd.prog.globals[2]?).map (·.type) = some 123 by kernel_rfl).symm.trans ht2)
  rw [d0] at hd0
  rw [d1] at hd1
  rw [d2] at hd2
  have c0 := triples_of_array Tryd.underlying113 Tryd.underlying110 Tryd.underlying21 (by kernel_rfl) (by kernel_rfl) (by kernel_rfl) hd0
  have c1 := triples_of_array Tryd.underlying111 Tryd.underlying110 Tryd.underlying21 (by kernel_rfl) (by kernel_rfl) (by kernel_rfl) hd1
  have c2 := ints_of_array Tryd.underlying123 Tryd.underlying21 (by kernel_rfl) (by kernel_rfl) hd2
  refine ⟨fun j v hv => ?_, fun j v hv => ?_, fun j v hv => ?_⟩
  · have := World.var?_cell hg0 hv0 j
    rw [← Array.getElem?_toList, c0, hv] at this
    simpa using this
  · have := World.var?_cell hg1 hv1 j
    rw [← Array.getElem?_toList, c1, hv] at this
    simpa using this
  · have := World.var?_cell hg2 hv2 j
    rw [← Array.getElem?_toList, c2, hv] at this
    simpa using this
end Go.Proofs.YthffpkdadffinaaDoor.Lv
namespace Go.Proofs.YthffpkdadffinaaDoor.ucdRanges
open Go.ChangeShapes Go.WideShapes Go.ChangeAt Go.RowKit
open Go.ChangeMaps (open_string shut_string)
set_option linter.unusedVariables false
set_option linter.unusedSimpArgs false
theorem own : ownKnob Tryd.prog.godebug = none := by kernel_rfl
theorem laidOut : laidOutB Tryd.prog = true := by kernel_rfl
set_option maxRecDepth 100000 in
theorem contract (H : Type) (enc : TypeId × Value → H) (W : World) (base : Nat) (args : Array Value) (ds gs : List (DataW H)) (before : List MemPlace)
    (hval0 : ∀ (j : Nat) t v, Tryd.f5.params[j]? = some t → args[j]? = some v → Value.okWide Tryd.prog W .any base t v)
    (hW : DataW.Whole enc Tryd.prog Tryd.f5.params.toList Rows.ucdRangesSpec.vars false W args.toList ds gs before)
    (hL : laidMetH Tryd.prog Lv.laid W)
    (hsz0 : (DataW.weightsEach Tryd.prog (Tryd.f5.params.toList ++ Rows.ucdRangesSpec.plain.varTypes Tryd.prog) (ds ++ gs)).all (· ≤ reachBytes) = true) :
    Calls Tryd.prog 5 args W fun e W' => ∃ v, e = .returned v ∧ Rows.ucdRangesSpec.post enc Tryd.prog Tryd.f5 false true false false W args v W' := by
  have hsz : (DataW.weightsEach Tryd.prog (Tryd.f5.params.toList ++ Rows.ucdRangesSpec.plain.varTypes Tryd.prog) (ds ++ gs)).all (· ≤ reachBytes) = true := hsz0
  have hval : ∀ (j : Nat) t v, Tryd.f5.params[j]? = some t → args[j]? = some v → Value.okWide Tryd.prog W .any base t v := hval0
  have hW' := hW
  obtain ⟨p, q, hA0, hV, rfl, hfz, hnd⟩ := hW
  have hA : DataW.TrodAll enc Tryd.prog W 0 (fun _ => true) true Tryd.f5.params.toList args.toList ds p := hA0
  rw [Tryd.params5] at hA hval hsz
  obtain ⟨v0, vs0, d0, ds0, p0, q0, hargs, rfl, rfl, h0, r0⟩ := trodAll_cons hA
  obtain ⟨v1, vs1, d1, ds1, p1, q1, rfl, rfl, rfl, h1, r1⟩ := trodAll_cons r0
  obtain ⟨rfl, rfl, rfl⟩ := trodAll_nil r1
  obtain rfl : args = #[v0, v1] := by cases args; simp_all
  obtain ⟨rfl, rfl⟩ := trodVars_none hV
  obtain ⟨a0, rfl, rfl, rfl, w0⟩ := open_int Tryd.underlying3 (hval 0 3 v0 rfl rfl) h0
  have k1 := h1
  have lt1 : ∀ x ∈ p1, x.block < W.heap.size := by obtain ⟨m, hm⟩ := k1; exact DataW.trod_lt m _ _ _ hm
  obtain ⟨A1, xs1, c1, rfl, hc1, hC1, hw1, hb1, hz1⟩ := Od.arg_slice Tryd.underlying42 (by kernel_rfl) (Od.opens_int Tryd.underlying21) (hval 1 42 v1 rfl rfl) h1
  clear hA0 hval0 hsz0
  obtain ⟨k, hk⟩ := Go.Proofs.YthffpkdadffinaaDoor.Vkq.UcdRanges a0 w0 xs1 hw1 (hz1 _ _ 1 _ hsz rfl rfl (by kernel_rfl))
  refine (Go.Proofs.YthffpkdadffinaaDoor.X.tremalaw02_UcdRanges.calls k a0 A1 c1 xs1 true W hC1 hc1 hk (Lv.of_laid hL)).mono fun e W' ⟨he, bel⟩ => ?_
  subst he
  exact ⟨_, rfl, _, _, _, [], _, [], hW', trodAll_mk1 (shut_bool Tryd.underlying4 _), (trodAll_cons_mk (shut_int Tryd.underlying3 w0) (trodAll_cons_mk (Below.trod laidOut (by kernel_rfl) (of_decide_eq_true (by kernel_rfl)) k1 bel lt1) trodAll_mk0)), rfl, bel.frame _, fun h => by cases h⟩
set_option maxRecDepth 100000 in
theorem lifted (os : Os) (started : os.Started) (H : Type) (enc : TypeId × Value → H) :
    ReturnsInHanded {} Tryd.checked os 5 .any (fun w args => (Rows.ucdRangesSpec.pre enc Tryd.prog Tryd.f5 [] false w args ∧ laidMetH Tryd.prog Lv.laid w) ∧ sizedMet enc Tryd.prog Tryd.f5 (OpenSpec.ofChange Rows.ucdRangesSpec) false w args) (Rows.ucdRangesSpec.post enc Tryd.prog Tryd.f5 false true false false) := by
  refine returnsInHanded_of_change_and (C := Tryd.checked) (X := fun w _ => laidMetH Tryd.prog Lv.laid w) (fun _ _ _ hh h => h.of_heap hh) own started (by kernel_rfl) Tryd.func5
    (ChangeSpec.witness_shaped (enc := enc) (C := Tryd.checked) (os := os) (X := fun w _ => laidMetH Tryd.prog Lv.laid w) false (World.doorLaid Tryd.prog 400 os) #[(.int .i64 0), (.slice none 0 0)] 8 rfl (World.shaped_of_RefB (by kernel_rfl) (by kernel_rfl)) (by kernel_rfl) (by kernel_rfl) (by kernel_rfl) (Lv.door_met os _)) ?_
  intro W base args ds gs before hval hW _ hsz hL _
  exact contract H enc W base args ds gs before hval hW hL hsz
theorem proved : Rows.UcdRangesSaid :=
  OpenClaim.holds_of_wide 5 Tryd.f5 rfl rfl rfl rfl rfl rfl rfl ⟨rfl, rfl, rfl, rfl, rfl⟩ rfl rfl rfl rfl rfl (by kernel_rfl) Tryd.func5 (by kernel_rfl)
    (of_decide_eq_true (by kernel_rfl)) (by unfold Func.isWrapper; first | (rw [if_pos (by decide +kernel)]; kernel_rfl) | (rw [if_neg (by decide +kernel)]; exact ⟨rfl, rfl⟩))
    (fun os started H enc _ => lifted os started H enc)
end Go.Proofs.YthffpkdadffinaaDoor.ucdRanges
namespace Go.Proofs.YthffpkdadffinaaDoor
theorem ucdRanges_holds : Rows.UcdRangesCardSaid :=
  Claim7.holds_tied_plain_at .later [] [.data, .data, .data] true (true, "40dec18509303b2ee17917badb52d4e1cd75dc8afa2e2cbc1ad49e1a0b909216") false
    ucdRanges.proved (fun _ h => by cases h) (by kernel_rfl) (fun _ h => by cases h) ucdRanges_row_tie rfl ⟨rfl, rfl⟩ (by kernel_rfl) rfl
    (fun f fn hf hfn => by
      obtain rfl : f = 5 := Option.some.inj ((show Tryd.prog.funcNamed "trema/tremalaw02.UcdRanges" = some 5 by kernel_rfl).symm.trans hf) |>.symm
      obtain rfl : fn = Tryd.f5 := (Option.some.inj (Tryd.func5.symm.trans hfn)).symm
      exact ⟨by kernel_rfl, fun j t ht => by
        rw [Tryd.params5] at ht
        have hm : t ∈ [3, 42] := by simpa using Array.mem_of_getElem? ht
        have hall : ([3, 42].all fun u => !Tryd.prog.wantsStandIn u) = true := by kernel_rfl
        exact (show Tryd.prog.wantsStandIn t = false by simpa using List.all_eq_true.1 hall t hm)⟩)
    (by kernel_rfl)
#print axioms ucdRanges_holds
end Go.Proofs.YthffpkdadffinaaDoor
