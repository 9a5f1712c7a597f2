/-
  Several texts of this claim in one: what its law's proof uses.
-/
import Derived.Test.YthffpkdadffinaaDoorMWJ2
import Derived.Test.YthffpkdadffinaaDoorMWJ19
import Derived.Test.YthffpkdadffinaaDoorRows
import Derived.ProofKit
import Derived.LaidMore
import Derived.OpenShut
import Derived.Stop.Joined
import Derived.Test.YthffpkdadffinaaDoorTie
import Derived.Test.YthffpkdadffinaaDoorCards
import Derived.WalkKit
import Derived.ShutString
import Derived.ChangeOld
import Derived.Below
import Derived.SizedLaws
import Derived.JoinedCond
import Derived.SevenTiedAt
import Derived.Deep.DeepHandedRow
import Derived.Deep.DeepWitnessRowRef
namespace Go.Proofs.YthffpkdadffinaaDoor.Odg
set_option linter.unusedVariables false
set_option linter.unusedSimpArgs false
open Go.RowKit YthffpkdadffinaaDoorW.PrintWords Od X
theorem opens_str {P : Program} {t : TypeId} (ht : P.underlying t = some .string) : Opens P t Kd.string (fun s => s.size ≤ maxLen) (fun s => s.size + 1) := by
  intro H enc w base spare held fuel cs x h; obtain ⟨s, rfl, rfl, hw⟩ := DataW.trod_string ht h; refine ⟨s, rfl, hw, ?_⟩; (have e : s.data.toList.length = s.size := by rw [Array.length_toList]; rfl); simp only [Rows.uptoBulk]; omega
theorem opens_iso {P : Program} {α β : Type} {d : Kd α} {f : β → α} {wf : α → Prop} {bulk : α → Nat} {t : TypeId} (g : α → β) (hg : ∀ a, f (g a) = a) (h : Opens P t d wf bulk) : Opens P t (Kd.iso d f) (fun b => wf (f b)) (fun b => bulk (f b)) := by
  intro H enc w base spare held fuel cs x hx; obtain ⟨a, ka, wa, ba⟩ := h H enc w base spare held fuel cs x hx; exact ⟨g a, by show d.K w (f (g a)) cs; rw [hg]; exact ka, by show wf (f (g a)); rw [hg]; exact wa, by show bulk (f (g a)) ≤ _; rw [hg]; exact ba⟩
theorem opens_struct3 {P : Program} {α β γ : Type} {d0 : Kd α} {d1 : Kd β} {d2 : Kd γ} {wf0 : α → Prop} {wf1 : β → Prop} {wf2 : γ → Prop} {b0 : α → Nat} {b1 : β → Nat} {b2 : γ → Nat} {t : TypeId} {fs : Array Field} {f0 f1 f2 : Field} (ht : P.underlying t = some (.struct fs)) (hn : fs.size = 3) (e0 : fs[0]? = some f0) (e1 : fs[1]? = some f1) (e2 : fs[2]? = some f2)
    (o0 : f0.offset = 0) (o1 : f1.offset = d0.sz) (o2 : f2.offset = d0.sz + d1.sz) (c0 : P.cellsOf f0.type = d0.sz) (c1 : P.cellsOf f1.type = d1.sz) (c2 : P.cellsOf f2.type = d2.sz) (hC : P.cellsOf t = d0.sz + d1.sz + d2.sz) (h0 : Opens P f0.type d0 wf0 b0) (h1 : Opens P f1.type d1 wf1 b1) (h2 : Opens P f2.type d2 wf2 b2) :
    Opens P t (Kd.pair d0 (Kd.pair d1 d2)) (fun x => wf0 x.1 ∧ wf1 x.2.1 ∧ wf2 x.2.2) (fun x => b0 x.1 + (b1 x.2.1 + b2 x.2.2) + 1) := by
  intro H enc w base spare held fuel cs x h; obtain ⟨xs, n, _, rfl, hl, hxl, hf⟩ := DataW.trod_struct ht h; have g0 := hf 0 f0 e0; have g1 := hf 1 f1 e1; have g2 := hf 2 f2 e2
  match xs, hxl.trans hn with
  | [y0, y1, y2], _ =>
    simp only [List.getElem?_cons_zero, List.getElem?_cons_succ] at g0 g1 g2; rw [o0, c0] at g0; rw [o1, c1] at g1; rw [o2, c2] at g2; obtain ⟨a, ka, wa, ba⟩ := h0 H enc w base spare held n _ _ g0; obtain ⟨b, kb, wb, bb⟩ := h1 H enc w base spare held n _ _ g1; obtain ⟨c, kc, wc, bc⟩ := h2 H enc w base spare held n _ _ g2; refine ⟨(a, b, c), ⟨_, _, ?_, ka, ⟨_, _, rfl, kb, kc⟩⟩, ⟨wa, wb, wc⟩, ?_⟩
    · rw [List.drop_zero, List.take_of_length_le (i := d2.sz) (by rw [List.length_drop]; omega), ← List.drop_drop, List.take_append_drop, List.take_append_drop]
    · simp only [List.map_cons, List.map_nil, Rows.uptoBulk, Rows.uptoBulkAll]; omega
abbrev SG := S67
def segW (s : SG) : Prop := s.f0.size ≤ maxLen ∧ (Lit.int .i64 s.f1).wf = true ∧ (Lit.int .i64 s.f2).wf = true
def segN (s : SG) : Nat := s.f0.size + 1 + (1 + 1) + 1
theorem opens_seg : Opens Tryd.prog 67 k67 segW segN :=
  opens_iso (f := fun x : SG => (x.f0, x.f1, x.f2)) (fun a => ⟨a.1, a.2.1, a.2.2⟩) (fun _ => rfl) (opens_struct3 Tryd.underlying67 rfl rfl rfl rfl rfl rfl rfl (by kernel_rfl) (by kernel_rfl) (by kernel_rfl) (by kernel_rfl) (opens_str Tryd.underlying9) (opens_int Tryd.underlying3) (opens_int Tryd.underlying3))
theorem sizes_bulk (l : List SG) : Wg.sizes (l.map (·.f0)) ≤ sumB segN l ∧ l.length ≤ sumB segN l := by
  induction l with
  | nil => simp [sumB, Wg.sizes]
  | cons s t ih =>
    simp only [sumB, List.map_cons, Wg.sizes, List.length_cons, segN]; omega
theorem WordsJoins (l : List SG) (_hw : ∀ x ∈ l, segW x) (hl : sumB segN l ≤ 1048576) : ∃ k, tremalaw13_WordsJoins.f k l = some true := by
  have hs := sizes_bulk l; have h1 : l.length ≤ 13000000 := Nat.le_trans hs.2 (Nat.le_trans hl (by decide)); have h2 : Wg.sizes (l.map (·.f0)) ≤ 13000000 := Nat.le_trans hs.1 (Nat.le_trans hl (by decide)); apply Ev.rounds (g := fun k => tremalaw13_WordsJoins.f k l); unfold tremalaw13_WordsJoins.f; (have e : words_Join.f l = some (Wg.wordsF l) := by unfold words_Join.f; rw [if_pos ⟨h2, h1⟩]); rw [Wt.fixedE, e]; simp only [Option.bind_some, if_true]; refine Ev.bind (Wr.refJoinEv l h1 h2) ?_; exact Ev.bind (Wd.sameWEv _ (by have := Wt.wordsF_len l; omega)) (Ev.now _)
end Go.Proofs.YthffpkdadffinaaDoor.Odg
namespace Go.Proofs.YthffpkdadffinaaDoor.Lv
set_option linter.unusedVariables false
set_option linter.unusedSimpArgs false
open Go.ChangeShapes Go.WideShapes Go.ChangeAt Go.RowKit YthffpkdadffinaaDoorW.PrintWords Va
theorem ints_of_array {H : Type} {enc : TypeId × Value → H} {P : Program} {w : World} {base : Nat} {sp : Nat → Bool} {held : Bool} {fuel : Nat} {t e : TypeId} {k : IntKind} {n : Nat} {cs : List Value} {l : List Int} {p : List MemPlace}
    (ht : P.underlying t = some (.array n e)) (he : P.underlying e = some (.int k)) (hC : P.cellsOf e = 1) (hT : P.cellsOf t = n) (h : DataW.trod enc P w base sp held fuel t cs = some (.agg (l.map fun x => .lit (.int k x)), p)) : cs = nums k l := by
  obtain ⟨xs, m, -, hx, hl, hxl, hi⟩ := DataW.trod_array ht h; obtain ⟨hx1, -⟩ := Prod.mk.inj hx; injection hx1 with hx1; (have hln : l.length = n := by have := congrArg List.length hx1; simpa [hxl] using this); rw [hT] at hl; unfold nums; (refine List.ext_getElem (by simp [hl, hln]) fun i h1 h2 => ?_); (have hin : i < n := by omega); have hxi := hi i hin; rw [hC, Nat.mul_one, List.getElem?_eq_getElem (by omega : i < xs.length)] at hxi; obtain ⟨z, e1, e2, -⟩ := DataW.trod_int he hxi
  have e3 : (xs[i]'(by omega)).1 = DataW.lit (.int k (l[i]'(by omega))) := by
    have := congrArg (fun q => q[i]?) hx1; simp [List.getElem?_eq_getElem (show i < l.length by omega), List.getElem?_eq_getElem (show i < xs.length by omega)] at this; exact this.symm
  rw [e2] at e3; injection e3 with e3; injection e3 with _ e3
  have e4 : cs[i]'h1 = .int k z := by
    rw [List.drop_eq_getElem_cons h1, List.take_succ_cons, List.take_zero] at e1; exact (List.cons.inj e1).1
  rw [e4, List.getElem_map, e3]
theorem triples_of_array {H : Type} {enc : TypeId × Value → H} {P : Program} {w : World} {base : Nat} {sp : Nat → Bool} {held : Bool} {fuel : Nat} {t e e3 : TypeId} {n : Nat} {cs : List Value} {l : List (Int × Int × Int)} {p : List MemPlace}
    (ht : P.underlying t = some (.array n e)) (he : P.underlying e = some (.array 3 e3)) (he3 : P.underlying e3 = some (.int .i32)) (hC3 : P.cellsOf e3 = 1) (hC : P.cellsOf e = 3) (hT : P.cellsOf t = n * 3) (h : DataW.trod enc P w base sp held fuel t cs = some (.agg (l.map fun x => .agg ([x.1, x.2.1, x.2.2].map fun y => .lit (.int .i32 y))), p)) : cs = cells3 l := by
  obtain ⟨xs, m, -, hx, hl, hxl, hi⟩ := DataW.trod_array ht h; obtain ⟨hx1, -⟩ := Prod.mk.inj hx; injection hx1 with hx1; (have hln : l.length = n := by have := congrArg List.length hx1; simpa [hxl] using this); rw [hT] at hl
  have key : ∀ i (hin : i < l.length), (cs.drop (i * 3)).take 3 = nums .i32 [l[i].1, l[i].2.1, l[i].2.2] := by
    intro i hin; have hxi := hi i (by omega); rw [hC, List.getElem?_eq_getElem (by omega : i < xs.length)] at hxi
    have e3' : (xs[i]'(by omega)).1 = DataW.agg ([l[i].1, l[i].2.1, l[i].2.2].map fun y => .lit (.int .i32 y)) := by
      have := congrArg (fun q => q[i]?) hx1; simp [List.getElem?_eq_getElem (show i < l.length by omega), List.getElem?_eq_getElem (show i < xs.length by omega)] at this; exact this.symm
    rw [show xs[i]'(by omega) = ((xs[i]'(by omega)).1, (xs[i]'(by omega)).2) from rfl, e3'] at hxi; exact ints_of_array he he3 hC3 hC hxi
  clear hi hx1 hx hxl ht h
  have go : ∀ (l : List (Int × Int × Int)) (cs : List Value), cs.length = l.length * 3 → (∀ i (hin : i < l.length), (cs.drop (i * 3)).take 3 = nums .i32 [l[i].1, l[i].2.1, l[i].2.2]) → cs = cells3 l := by
    intro l
    induction l with
    | nil => intro cs h1 _; exact List.eq_nil_of_length_eq_zero (by simpa using h1)
    | cons x r ih =>
      intro cs h1 h2; have h0 := h2 0 (by simp)
      have hr := ih (cs.drop 3) (by rw [List.length_drop, h1]; simp; omega) (fun i hin => by
        have := h2 (i + 1) (by simp; omega); rw [List.drop_drop, show 3 + i * 3 = (i + 1) * 3 by omega]
        exact this)
      rw [Nat.zero_mul, List.drop_zero] at h0; rw [← List.take_append_drop 3 cs, h0, hr]
      rfl
  exact go l cs (by omega) key
abbrev laid : List (String × DataW Unit) := [("trema/ucd.classes", Rows.laid_trema_ucd_classes), ("trema/ucd.pairs", Rows.laid_trema_ucd_pairs), ("trema/ucd.marks", Rows.laid_trema_ucd_marks)]
theorem d0 : (Rows.laid_trema_ucd_classes : DataW Unit) = .agg (clsT.map fun x => .agg ([x.1, x.2.1, x.2.2].map fun y => .lit (.int .i32 y))) := by kernel_rfl
theorem d1 : (Rows.laid_trema_ucd_pairs : DataW Unit) = .agg (prsT.map fun x => .agg ([x.1, x.2.1, x.2.2].map fun y => .lit (.int .i32 y))) := by kernel_rfl
theorem d2 : (Rows.laid_trema_ucd_marks : DataW Unit) = .agg (mksT.map fun y => .lit (.int .i32 y)) := by kernel_rfl
theorem door_met (os : Os) (args : Array Value) : laidMetH Tryd.prog laid ((World.doorLaid Tryd.prog 400 os).forCall (fun _ _ => 0) ⟨#[], args, []⟩).memory :=
  laidMetH_of_parts3 (fuel := 8) (laidMet_of_run' 8 (by kernel_rfl) (by kernel_rfl)) (by kernel_rfl) (by kernel_rfl)
theorem of_laid {W : World} (h : laidMetH Tryd.prog laid W) : G W := by
  rw [MakeChecks.laidMetH_plain _ _ _ (by kernel_rfl)] at h; obtain ⟨ps, ⟨g0, t0, cs0, f0, p0, q0, hg0, ht0, hv0, hd0, ⟨g1, t1, cs1, f1, p1, q1, hg1, ht1, hv1, hd1, ⟨g2, t2, cs2, f2, p2, q2, hg2, ht2, hv2, hd2, _, _⟩, _⟩, _⟩, _, _⟩ := h; obtain rfl := Option.some.inj ((show Tryd.prog.globalNamed "trema/ucd.classes" = some 1 by kernel_rfl).symm.trans hg0); obtain rfl := Option.some.inj ((show Tryd.prog.globalNamed "trema/ucd.pairs" = some 0 by kernel_rfl).symm.trans hg1); obtain rfl := Option.some.inj ((show Tryd.prog.globalNamed "trema/ucd.marks" = some 2 by kernel_rfl).symm.trans hg2); obtain rfl := Option.some.inj ((show (Tryd.prog.globals[1]?).map (·.type) = some 113 by kernel_rfl).symm.trans ht0); obtain rfl := Option.some.inj ((show (Tryd.prog.globals[0]?).map (·.type) = some 111 by kernel_rfl).symm.trans ht1); obtain rfl := Option.some.inj ((show (Tryd.prog.globals[2]?).map (·.type) = some 123 by kernel_rfl).symm.trans ht2); rw [d0] at hd0; rw [d1] at hd1; rw [d2] at hd2; have c0 := triples_of_array Tryd.underlying113 Tryd.underlying110 Tryd.underlying21 (by kernel_rfl) (by kernel_rfl) (by kernel_rfl) hd0; have c1 := triples_of_array Tryd.underlying111 Tryd.underlying110 Tryd.underlying21 (by kernel_rfl) (by kernel_rfl) (by kernel_rfl) hd1; have c2 := ints_of_array Tryd.underlying123 Tryd.underlying21 (by kernel_rfl) (by kernel_rfl) hd2; refine ⟨fun j v hv => ?_, fun j v hv => ?_, fun j v hv => ?_⟩
  · have := World.var?_cell hg0 hv0 j; rw [← Array.getElem?_toList, c0, hv] at this
    simpa using this
  · have := World.var?_cell hg1 hv1 j; rw [← Array.getElem?_toList, c1, hv] at this
    simpa using this
  · have := World.var?_cell hg2 hv2 j; rw [← Array.getElem?_toList, c2, hv] at this
    simpa using this
end Go.Proofs.YthffpkdadffinaaDoor.Lv
namespace Go.Proofs.YthffpkdadffinaaDoor.wordsJoins
open Go.ChangeShapes Go.WideShapes Go.ChangeAt Go.RowKit
open Go.ChangeMaps (open_string shut_string)
set_option linter.unusedVariables false
set_option linter.unusedSimpArgs false
theorem own : ownKnob Tryd.prog.godebug = none := by kernel_rfl
theorem laidOut : laidOutB Tryd.prog = true := by kernel_rfl
set_option maxRecDepth 100000 in
theorem contract (H : Type) (enc : TypeId × Value → H) (W : World) (base : Nat) (args : Array Value) (ds gs : List (DataW H)) (before : List MemPlace)
    (hval0 : ∀ (j : Nat) t v, Tryd.f7.params[j]? = some t → args[j]? = some v → Value.okWide Tryd.prog W .any base t v)
    (hW : DataW.Whole enc Tryd.prog Tryd.f7.params.toList Rows.wordsJoinsSpec.vars false W args.toList ds gs before)
    (hL : laidMetH Tryd.prog Lv.laid W)
    (hk0 : Rows.uptoSmall H (ds ++ gs) = true) :
    Calls Tryd.prog 7 args W fun e W' => ∃ v, e = .returned v ∧ Rows.wordsJoinsSpec.post enc Tryd.prog Tryd.f7 false true false false W args v W' := by
  have hkb : Rows.uptoBulkAll (ds ++ gs) ≤ 1048576 := of_decide_eq_true hk0; have hval : ∀ (j : Nat) t v, Tryd.f7.params[j]? = some t → args[j]? = some v → Value.okWide Tryd.prog W .any base t v := hval0; have hW' := hW; obtain ⟨p, q, hA0, hV, rfl, hfz, hnd⟩ := hW; have hA : DataW.TrodAll enc Tryd.prog W 0 (fun _ => true) true Tryd.f7.params.toList args.toList ds p := hA0; rw [Tryd.params7] at hA hval; obtain ⟨v0, vs0, d0, ds0, p0, q0, hargs, rfl, rfl, h0, r0⟩ := trodAll_cons hA; obtain ⟨rfl, rfl, rfl⟩ := trodAll_nil r0; (obtain rfl : args = #[v0] := by cases args; simp_all); obtain ⟨rfl, rfl⟩ := trodVars_none hV; have k0 := h0; (have lt0 : ∀ x ∈ p0, x.block < W.heap.size := by obtain ⟨m, hm⟩ := k0; exact DataW.trod_lt m _ _ _ hm); obtain ⟨A0, xs0, c0, rfl, hc0, hC0, hw0, hb0, hz0⟩ := Od.arg_slice Tryd.underlying29 (by kernel_rfl) Odg.opens_seg (hval 0 29 v0 rfl rfl) h0; simp only [List.append_nil, Rows.uptoBulkAll] at hkb; have hB0 := Nat.le_trans (Nat.le_trans (Nat.le_succ _) hb0) (show Rows.uptoBulk d0 ≤ 1048576 by omega); clear hA0 hval0 hk0; obtain ⟨k, hk⟩ := Go.Proofs.YthffpkdadffinaaDoor.Odg.WordsJoins xs0 hw0 hB0; (refine (Go.Proofs.YthffpkdadffinaaDoor.X.tremalaw13_WordsJoins.calls k A0 c0 xs0 true W hC0 hc0 hk (Lv.of_laid hL)).mono fun e W' ⟨he, bel⟩ => ?_); subst he; exact ⟨_, rfl, _, _, _, [], _, [], hW', trodAll_mk1 (shut_bool Tryd.underlying4 _), (trodAll_cons_mk (Below.trod laidOut (by kernel_rfl) (of_decide_eq_true (by kernel_rfl)) k0 bel lt0) trodAll_mk0), rfl, bel.frame _, fun h => by cases h⟩
set_option maxRecDepth 100000 in
theorem lifted (os : Os) (started : os.Started) (H : Type) (enc : TypeId × Value → H) (F : Stop.Interp) :
    ReturnsInHanded {} Tryd.checked os 7 .any ((Rows.OpenSpec.upto Rows.wordsJoinsSpec).preRow enc Tryd.prog Tryd.f7 Rows.wordsJoinsUptoRow.domain false Rows.wordsJoinsUptoRow.laid) (((Rows.OpenSpec.upto Rows.wordsJoinsSpec).at F).post enc Tryd.prog Tryd.f7 false true false false) := by
  refine returnsInHanded_of_row (C := Tryd.checked) (s := Rows.OpenSpec.upto Rows.wordsJoinsSpec) own started (by kernel_rfl) Tryd.func7
    (witness_row_atRef (enc := enc) (C := Tryd.checked) false (World.doorLaid Tryd.prog 400 os) #[(.slice none 0 0)] rfl (by kernel_rfl) (by kernel_rfl) (by kernel_rfl)
      (OpenSpec.preRow_of_cond (x := ([.nil], [], [])) 8 (by kernel_rfl) (by kernel_rfl) (fun k hk => by cases hk; kernel_rfl) (by kernel_rfl) (Lv.door_met os _))) ?_
  intro W base args ds gs before hval hW _ hcond _ hL _ _; exact contract H enc W base args ds gs before hval hW hL (hcond _ rfl)
theorem proved : Rows.WordsJoinsUptoSaid :=
  OpenClaim.holds_of_cond 7 Tryd.f7 rfl rfl rfl rfl rfl rfl rfl ⟨rfl, rfl, rfl, rfl, rfl⟩ rfl rfl rfl rfl rfl (by kernel_rfl) Tryd.func7 (by kernel_rfl)
    (of_decide_eq_true (by kernel_rfl)) (by unfold Func.isWrapper; first | (rw [if_pos (by decide +kernel)]; kernel_rfl) | (rw [if_neg (by decide +kernel)]; exact ⟨rfl, rfl⟩))
    (fun os started H enc _ F => by rw [OpenClaim.pre_eq_preRow]; exact lifted os started H enc F)
end Go.Proofs.YthffpkdadffinaaDoor.wordsJoins
namespace Go.Proofs.YthffpkdadffinaaDoor
theorem wordsJoins_holds : Rows.WordsJoinsUptoCardSaid :=
  Claim7.holds_tied_plain_at .later [] [.data, .data, .data] true (true, "40dec18509303b2ee17917badb52d4e1cd75dc8afa2e2cbc1ad49e1a0b909216") false
    wordsJoins.proved (fun _ h => by cases h) (by kernel_rfl) (fun _ h => by cases h) wordsJoinsUpto_row_tie rfl ⟨rfl, rfl⟩ (by kernel_rfl) rfl
    (fun f fn hf hfn => by
      obtain rfl : f = 7 := Option.some.inj ((show Tryd.prog.funcNamed "trema/tremalaw13.WordsJoins" = some 7 by kernel_rfl).symm.trans hf) |>.symm; obtain rfl : fn = Tryd.f7 := (Option.some.inj (Tryd.func7.symm.trans hfn)).symm
      exact ⟨by kernel_rfl, fun j t ht => by
        rw [Tryd.params7] at ht; (have hm : t ∈ [29] := by simpa using Array.mem_of_getElem? ht); have hall : ([29].all fun u => !Tryd.prog.wantsStandIn u) = true := by kernel_rfl
        exact (show Tryd.prog.wantsStandIn t = false by simpa using List.all_eq_true.1 hall t hm)⟩)
    (by kernel_rfl)
#print axioms wordsJoins_holds
end Go.Proofs.YthffpkdadffinaaDoor
