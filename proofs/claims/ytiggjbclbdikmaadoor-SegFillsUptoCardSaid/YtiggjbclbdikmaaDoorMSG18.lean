/-
  Several texts of this claim in one: what its law's proof uses.
-/
import Derived.Test.YtiggjbclbdikmaaDoorMSG15
import Derived.Test.YtiggjbclbdikmaaDoorMSG17
import Derived.Test.YtiggjbclbdikmaaDoorRows
import Derived.Test.YtiggjbclbdikmaaDoorMSG14
import Derived.Test.YtiggjbclbdikmaaDoorTie
import Derived.Test.YtiggjbclbdikmaaDoorCards
import Derived.WalkKit
import Derived.ProofKit
import Derived.OpenShut
import Derived.ShutString
import Derived.ChangeOld
import Derived.Below
import Derived.SizedLaws
import Derived.JoinedCond
import Derived.SevenTiedAt
import Derived.LaidMore
import Derived.Stop.Joined
import Derived.Deep.DeepHandedRow
import Derived.Deep.DeepWitnessRowRef
namespace Go.Proofs.YtiggjbclbdikmaaDoor.Sgv
set_option linter.unusedVariables false
set_option linter.unusedSimpArgs false
open Go.Proofs.YtiggjbclbdikmaaDoor.Ux (Bytes full)
open Go.Proofs.YtiggjbclbdikmaaDoor.Ve (opn)
open Go.Proofs.YtiggjbclbdikmaaDoor.Ot (rns)
open Go.Proofs.YtiggjbclbdikmaaDoor.En (enc enc_len enc_byte enc_append)
open Go.RowKit Go.Proofs.YtiggjbclbdikmaaDoorW.PrintWords Go.Proofs.YtiggjbclbdikmaaDoor.Ev0 Go.Proofs.YtiggjbclbdikmaaDoor.X Go.Proofs.YtiggjbclbdikmaaDoor.Oa Go.Proofs.YtiggjbclbdikmaaDoor.Ob Go.Proofs.YtiggjbclbdikmaaDoor.Vp0 Go.Proofs.YtiggjbclbdikmaaDoor.Vr Go.Proofs.YtiggjbclbdikmaaDoor.Vu Go.Proofs.YtiggjbclbdikmaaDoor.Sga Go.Proofs.YtiggjbclbdikmaaDoor.Sgb Go.Proofs.YtiggjbclbdikmaaDoor.Sgd Go.Proofs.YtiggjbclbdikmaaDoor.Sgp Go.Proofs.YtiggjbclbdikmaaDoor.Sgq Go.Proofs.YtiggjbclbdikmaaDoor.Sgt Go.Proofs.YtiggjbclbdikmaaDoor.Sgu
def catB : List ByteArray → ByteArray
  | [] => ⟨#[]⟩
  | x :: t => x ++ catB t
theorem ba_ext {a b : ByteArray} (h : a.data.toList = b.data.toList) : a = b := by
  cases a
  cases b
  exact congrArg ByteArray.mk (Array.toList_inj.1 h)
theorem ba_app (a b : ByteArray) : (a ++ b).data.toList = a.data.toList ++ b.data.toList := by
  rw [ByteArray.data_append, Array.toList_append]
theorem str_app (a b : List Int) : strOfNums (a ++ b) = strOfNums a ++ strOfNums b := by
  refine ba_ext ?_
  rw [ba_app, strOfNums_data, strOfNums_data, strOfNums_data, List.map_append]
theorem txt_app (a b : List Int) (x : Int) (t : List Int) (hb : b = x :: t) (ho : opn x = true) : txt (a ++ b) = txt a ++ txt b := by
  have h := Oqe.opens_cut (a ++ b) a.length (by rw [hb, List.length_append, List.length_cons]; omega) (by rw [List.getElem_append_right (Nat.le_refl _)]; simp [hb, ho])
  rw [List.take_left, List.drop_left] at h
  unfold txt
  rw [h, enc_append, str_app]
theorem cutT_cat : ∀ (t rs : List Int), catB (cutT t rs) = txt (rs ++ t)
  | [], rs => by
    rw [List.append_nil]
    refine ba_ext ?_
    show (txt rs ++ (⟨#[]⟩ : ByteArray)).data.toList = _
    rw [ba_app]
    simp
  | x :: t, rs => by
    rw [cutT]
    split
    · rename_i h
      show txt rs ++ catB (cutT t [x]) = _
      rw [cutT_cat t [x], txt_app rs (x :: t) x t rfl h]
      rfl
    · rw [cutT_cat t (rs ++ [x]), List.append_assoc]
      rfl
theorem cutTS_cat (r : List Int) : catB (cutTS r) = txt r := by
  cases r with
  | nil => rfl
  | cons x t => exact cutT_cat t [x]
theorem textEv (b : List Int) (hB : Bytes b) (hl : b.length ≤ 50000000) : Ev (fun k => tremaref03_Text.f k b) (txt (rns b)) := by
  have h1 : ∀ x ∈ rns b, I32 x := Ot.runes32 b hB
  have hr := rns_len b
  have n1 := nrm_len3 (rns b) h1
  unfold tremaref03_Text.f
  refine Ev.bind (Ot.runesEv b hB (by omega)) ?_
  refine Ev.bind (refNEv _ h1 (by omega)) ?_
  refine Ev.bind (Ev.of (tremaref01_Encode.mono (nrm (rns b))) (En.ref_pure (nrm (rns b)) (by omega))) ?_
  exact Ev.now _
theorem rns_pos (b : List Int) (h : 0 < b.length) : 0 < (rns b).length := by
  cases b with
  | nil => simp at h
  | cons c t => rw [rns_cons]; simp
theorem txt_pos (r : List Int) (h : 0 < r.length) : 0 < (txt r).size := by
  have h1 := (enc_len (nrm r)).1
  have h2 : 0 < (nrm r).length := by
    have hf := flat_ne r (by intro e; rw [e] at h; simp at h)
    rw [nrm_len]
    exact List.length_pos_iff.2 hf
  have e1 : (txt r).size = (enc (nrm r)).length := by unfold txt; rw [← bytesOf_length, Ot.bytes_str _ (enc_byte _)]
  omega
theorem SegFills (l : List Int) (hwf : ∀ x ∈ l, (Lit.int .u8 x).wf = true) (hl : l.length ≤ 1048576) : ∃ k, tremalaw04_SegFills.f k l = some true := by
  have hb := Ot.wf_bytes hwf
  have e1 : seg_Split.f l 64 = some (splitF 64 l) := by unfold seg_Split.f; rw [if_pos ⟨Sgr.bytesB_mk hb, by omega⟩]
  apply Ev.rounds (g := fun k => tremalaw04_SegFills.f k l)
  unfold tremalaw04_SegFills.f tremalaw04_fixed.f
  simp only [Option.bind_some, if_true, e1]
  have hs := split_cut 64 l hb (by omega) (by omega) (by omega)
  have hg := goodS_all 64 (cutS (full l))
  rcases hge : goodS 64 (cutS (full l)) with ⟨g1, g2⟩
  rw [hge] at hs hg
  rw [hs]
  cases g2 with
  | true => simp only [errOf, if_true, if_neg (show ¬ (6 : Int) = 0 by decide)]; exact Ev.now _
  | false =>
    have hg := hg rfl
    simp only at hg
    have hfill := fills_all l
    have hsz := (Sgr.fsize l hb (by omega))
    have hcat : catB ((cutS (full l)).map (·.f0)) = txt (rns l) := by
      rw [← texts_cut l hb (by omega), texts_rns l hb (by omega), cutTS_cat]
    rw [← hg] at hfill hsz hcat
    have hT : (txt (rns l)).size ≤ 12 * l.length := by
      have := txt_size (rns l) (Ot.runes32 l hb)
      have := rns_len l
      omega
    simp only [errOf, Bool.false_eq_true, if_false, if_true]
    have key : ∀ q i : Nat, i + q = g1.length → ∀ (a : Nat) (X : ByteArray), a ≤ l.length → Fills l a (g1.drop i) → X ++ catB ((g1.drop i).map (·.f0)) = txt (rns l) → Ev (fun k => tremalaw04_SegFills.l0 k l (a : Int) X g1 (g1.length : Int) (i : Int)) true := by
      intro q
      induction q with
      | zero =>
        intro i hi a X ha hf hx
        obtain rfl : i = g1.length := hi
        rw [List.drop_length] at hf hx
        refine Ev.step (fun k => tremalaw04_SegFills.l0.eq_2 ..) ?_
        have hae : a = l.length := hf
        have hX : X = txt (rns l) := by
          rw [← hx]
          refine ba_ext ?_
          show _ = (X ++ (⟨#[]⟩ : ByteArray)).data.toList
          rw [ba_app]
          simp
        simp only [if_neg (Int.lt_irrefl _), if_pos (show (a : Int) = (l.length : Int) by omega)]
        refine Ev.bind (textEv l hb (by omega)) ?_
        rw [hX, beq_self_eq_true]
        exact Ev.now _
      | succ q ih =>
        intro i hi a X ha hf hx
        have hil : i < g1.length := by omega
        rw [List.drop_eq_getElem_cons hil] at hf hx
        obtain ⟨h1, e, h2, hae, hel, h3, hf⟩ := hf
        rw [List.map_cons] at hx
        have hx2 : X ++ ((g1[i]).f0 ++ catB ((g1.drop (i + 1)).map (·.f0))) = txt (rns l) := hx
        have hx3 : (X ++ (g1[i]).f0) ++ catB ((g1.drop (i + 1)).map (·.f0)) = txt (rns l) := by
          rw [← hx2]
          refine ba_ext ?_
          rw [ba_app, ba_app, ba_app, ba_app, List.append_assoc]
        have hXs : X.size ≤ (txt (rns l)).size := by
          rw [← hx2, ByteArray.size_append]
          omega
        have hss := hsz.1 _ (List.getElem_mem hil)
        obtain ⟨s, hse⟩ : ∃ s, s = g1[i] := ⟨_, rfl⟩
        rw [← hse] at h1 h2 h3 hx3 hss
        have hpl : ((l.take e).drop a).length = e - a := by rw [List.length_drop, List.length_take]; omega
        have hbp : Bytes ((l.take e).drop a) := fun x hx => hb x (List.mem_of_mem_take (List.mem_of_mem_drop hx))
        have hne : ¬ s.f0.toList = ([] : List UInt8) := by
          intro h
          have := txt_pos _ (rns_pos ((l.take e).drop a) (by omega))
          rw [← h3] at this
          rw [Sgr.ba_data] at h
          have h5 : s.f0.data.toList.length = s.f0.size := by rw [Array.length_toList]; rfl
          rw [h, List.length_nil] at h5
          omega
        refine Ev.step (fun k => tremalaw04_SegFills.l0.eq_2 ..) ?_
        simp only [if_pos (show (i : Int) < (g1.length : Int) by omega), if_pos (show (0 : Int) ≤ (i : Int) by omega), rdG hil, ← hse, h1, h2, if_true, if_neg (show ¬ (e : Int) ≤ (a : Int) by omega), if_neg hne, if_pos (show (0 : Int) ≤ (a : Int) by omega), if_pos (show (a : Int) ≤ (e : Int) by omega), if_pos (show (e : Int) ≤ (l.length : Int) by omega), Int.toNat_natCast, w64 (i := i) (by omega)]
        refine Ev.bind (textEv _ hbp (by omega)) ?_
        simp only [if_pos (show s.f0.toList = (txt (rns ((l.take e).drop a))).toList by rw [h3]), if_pos (show X.size + s.f0.size ≤ 9223372036854775807 by omega)]
        exact ih (i + 1) (by omega) e _ hel hf hx3
    exact key g1.length 0 (by omega) 0 ⟨#[]⟩ (by omega) hfill (by
      rw [List.drop_zero]
      rw [← hcat]
      refine ba_ext ?_
      rw [ba_app]
      simp)
end Go.Proofs.YtiggjbclbdikmaaDoor.Sgv
namespace Go.Proofs.YtiggjbclbdikmaaDoor.segFills
open Go.ChangeShapes Go.WideShapes Go.ChangeAt Go.RowKit
open Go.ChangeMaps (open_string shut_string)
set_option linter.unusedVariables false
set_option linter.unusedSimpArgs false
theorem own : ownKnob Tryd.prog.godebug = none := by kernel_rfl
theorem laidOut : laidOutB Tryd.prog = true := by kernel_rfl
set_option maxRecDepth 100000 in
theorem contract (H : Type) (enc : TypeId × Value → H) (W : World) (base : Nat) (args : Array Value) (ds gs : List (DataW H)) (before : List MemPlace)
    (hval0 : ∀ (j : Nat) t v, Tryd.f14.params[j]? = some t → args[j]? = some v → Value.okWide Tryd.prog W .any base t v)
    (hW : DataW.Whole enc Tryd.prog Tryd.f14.params.toList Rows.segFillsSpec.vars false W args.toList ds gs before)
    (hL : laidMetH Tryd.prog Lv.laid W)
    (hk0 : Rows.uptoSmall H (ds ++ gs) = true) :
    Calls Tryd.prog 14 args W fun e W' => ∃ v, e = .returned v ∧ Rows.segFillsSpec.post enc Tryd.prog Tryd.f14 false true false false W args v W' := by
  have hkb : Rows.uptoBulkAll (ds ++ gs) ≤ 1048576 := of_decide_eq_true hk0
  have hval : ∀ (j : Nat) t v, Tryd.f14.params[j]? = some t → args[j]? = some v → Value.okWide Tryd.prog W .any base t v := hval0
  have hW' := hW
  obtain ⟨p, q, hA0, hV, rfl, hfz, hnd⟩ := hW
  have hA : DataW.TrodAll enc Tryd.prog W 0 (fun _ => true) true Tryd.f14.params.toList args.toList ds p := hA0
  rw [Tryd.params14] at hA hval
  obtain ⟨v0, vs0, d0, ds0, p0, q0, hargs, rfl, rfl, h0, r0⟩ := trodAll_cons hA
  obtain ⟨rfl, rfl, rfl⟩ := trodAll_nil r0
  obtain rfl : args = #[v0] := by cases args; simp_all
  obtain ⟨rfl, rfl⟩ := trodVars_none hV
  have k0 := h0
  have lt0 : ∀ x ∈ p0, x.block < W.heap.size := by obtain ⟨m, hm⟩ := k0; exact DataW.trod_lt m _ _ _ hm
  obtain ⟨A0, xs0, c0, rfl, hc0, hC0, hw0, hb0, hz0⟩ := Od.arg_slice Tryd.underlying27 (by kernel_rfl) (Od.opens_int Tryd.underlying5) (hval 0 27 v0 rfl rfl) h0
  simp only [List.append_nil, Rows.uptoBulkAll] at hkb
  have hB0 := Nat.le_trans (Nat.le_trans (Nat.le_succ _) hb0) (show Rows.uptoBulk d0 ≤ 1048576 by omega)
  clear hA0 hval0 hk0
  obtain ⟨k, hk⟩ := Go.Proofs.YtiggjbclbdikmaaDoor.Sgv.SegFills xs0 hw0 (Nat.le_trans (Od.sumB_len (fun _ => Nat.le_refl _) _) hB0)
  refine (Go.Proofs.YtiggjbclbdikmaaDoor.X.tremalaw04_SegFills.calls k A0 c0 xs0 true W hC0 hc0 hk (Lv.of_laid hL)).mono fun e W' ⟨he, bel⟩ => ?_
  subst he
  exact ⟨_, rfl, _, _, _, [], _, [], hW', trodAll_mk1 (shut_bool Tryd.underlying4 _), (trodAll_cons_mk (Below.trod laidOut (by kernel_rfl) (of_decide_eq_true (by kernel_rfl)) k0 bel lt0) trodAll_mk0), rfl, bel.frame _, fun h => by cases h⟩
set_option maxRecDepth 100000 in
theorem lifted (os : Os) (started : os.Started) (H : Type) (enc : TypeId × Value → H) (F : Stop.Interp) :
    ReturnsInHanded {} Tryd.checked os 14 .any ((Rows.OpenSpec.upto Rows.segFillsSpec).preRow enc Tryd.prog Tryd.f14 Rows.segFillsUptoRow.domain false Rows.segFillsUptoRow.laid) (((Rows.OpenSpec.upto Rows.segFillsSpec).at F).post enc Tryd.prog Tryd.f14 false true false false) := by
  refine returnsInHanded_of_row (C := Tryd.checked) (s := Rows.OpenSpec.upto Rows.segFillsSpec) own started (by kernel_rfl) Tryd.func14
    (witness_row_atRef (enc := enc) (C := Tryd.checked) false (World.doorLaid Tryd.prog 400 os) #[(.slice none 0 0)] rfl (by kernel_rfl) (by kernel_rfl) (by kernel_rfl)
      (OpenSpec.preRow_of_cond (x := ([.nil], [], [])) 8 (by kernel_rfl) (by kernel_rfl) (fun k hk => by cases hk; kernel_rfl) (by kernel_rfl) (Lv.door_met os _))) ?_
  intro W base args ds gs before hval hW _ hcond _ hL _ _
  exact contract H enc W base args ds gs before hval hW hL (hcond _ rfl)
theorem proved : Rows.SegFillsUptoSaid :=
  OpenClaim.holds_of_cond 14 Tryd.f14 rfl rfl rfl rfl rfl rfl rfl ⟨rfl, rfl, rfl, rfl, rfl⟩ rfl rfl rfl rfl rfl (by kernel_rfl) Tryd.func14 (by kernel_rfl)
    (of_decide_eq_true (by kernel_rfl)) (by unfold Func.isWrapper; first | (rw [if_pos (by decide +kernel)]; kernel_rfl) | (rw [if_neg (by decide +kernel)]; exact ⟨rfl, rfl⟩))
    (fun os started H enc _ F => by rw [OpenClaim.pre_eq_preRow]; exact lifted os started H enc F)
end Go.Proofs.YtiggjbclbdikmaaDoor.segFills
namespace Go.Proofs.YtiggjbclbdikmaaDoor
theorem segFills_holds : Rows.SegFillsUptoCardSaid :=
  Claim7.holds_tied_plain_at .later [] [.data, .data, .data] true (true, "fdf6c36acc2ff838e2b06de7c88b3a207dcf6760465f25f192835ebb1407940d") false
    segFills.proved (fun _ h => by cases h) (by kernel_rfl) (fun _ h => by cases h) segFillsUpto_row_tie rfl ⟨rfl, rfl⟩ (by kernel_rfl) rfl
    (fun f fn hf hfn => by
      obtain rfl : f = 14 := Option.some.inj ((show Tryd.prog.funcNamed "trema/tremalaw04.SegFills" = some 14 by kernel_rfl).symm.trans hf) |>.symm
      obtain rfl : fn = Tryd.f14 := (Option.some.inj (Tryd.func14.symm.trans hfn)).symm
      exact ⟨by kernel_rfl, fun j t ht => by
        rw [Tryd.params14] at ht
        have hm : t ∈ [27] := by simpa using Array.mem_of_getElem? ht
        have hall : ([27].all fun u => !Tryd.prog.wantsStandIn u) = true := by kernel_rfl
        exact (show Tryd.prog.wantsStandIn t = false by simpa using List.all_eq_true.1 hall t hm)⟩)
    (by kernel_rfl)
#print axioms segFills_holds
end Go.Proofs.YtiggjbclbdikmaaDoor
