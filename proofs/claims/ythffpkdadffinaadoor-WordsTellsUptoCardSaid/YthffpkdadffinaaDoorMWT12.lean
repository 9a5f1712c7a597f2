/-
  Several texts of this claim in one: what its law's proof uses.
-/
import Derived.Test.YthffpkdadffinaaDoorMWT11
import Derived.Test.YthffpkdadffinaaDoorMWT8
import Derived.Test.YthffpkdadffinaaDoorMWT3
import Derived.Test.YthffpkdadffinaaDoorMWT7
import Derived.Test.YthffpkdadffinaaDoorMWT10
import Derived.BigQuiet
import Derived.Deep.RegionHeld3
import Derived.Test.YthffpkdadffinaaDoorMWT2
import Derived.Test.YthffpkdadffinaaDoorMWT9
namespace Go.Proofs.YthffpkdadffinaaDoor.Sgp
set_option linter.unusedVariables false
set_option linter.unusedSimpArgs false
open Go.Proofs.YthffpkdadffinaaDoor.Vd (decU)
open Go.Proofs.YthffpkdadffinaaDoor.Ve (opn)
open Go.Proofs.YthffpkdadffinaaDoor.Ux (Bytes one1 dc rest1 full dec)
open Go.Proofs.YthffpkdadffinaaDoor.En (enc fixr enc_byte enc_len)
open Go.RowKit YthffpkdadffinaaDoorW.PrintWords Ev0 X Oa Ob Vp0 Sga Sgb Sgc Sgd
theorem lenF_txt (l : List Int) : lenF (txt l) = (nrm l).length := by
  unfold lenF txt Ot.rns; rw [Ot.bytes_str _ (enc_byte _), Bk.full_ful]; rw [Bk.ful_enc, List.length_map]
theorem flat_flat (l : List Int) (hl : ∀ x ∈ l, I32 x) : flat (flat l) = flat l := flat_id _ (fun y hy => (flat_bot l hl y hy).1)
theorem txt_flat (l : List Int) (hl : ∀ x ∈ l, I32 x) : txt (flat l) = txt l := by
  unfold txt nrm; rw [flat_flat l hl]
theorem flat_ne (l : List Int) (h : l ≠ []) : flat l ≠ [] := by
  cases l with
  | nil => exact absurd rfl h
  | cons x t =>
    rw [flat_cons]; intro e; exact Ve.decF_ne 4 x (List.append_eq_nil_iff.1 e).1
def cutR : List SP → List Int → Int → Int → List SG
  | [], rs, a, e => [⟨txt rs, a, e⟩]
  | p :: t, rs, a, e => if opn p.f0 = true then ⟨txt rs, a, e⟩ :: cutR t [p.f0] p.f1 (p.f1 + p.f2) else cutR t (rs ++ [p.f0]) a (p.f1 + p.f2)
def cutS : List SP → List SG
  | [] => []
  | p :: t => cutR t [p.f0] p.f1 (p.f1 + p.f2)
def goodS (lim : Int) : List SG → List SG × Bool
  | [] => ([], false)
  | s :: l => if lim < (lenF s.f0 : Int) then ([], true) else (s :: (goodS lim l).1, (goodS lim l).2)
theorem long_first (lim : Int) : ∀ (t : List SP) (rs : List Int) (a e : Int), lim < ((flat rs).length : Int) → goodS lim (cutR t rs a e) = ([], true)
  | [], rs, a, e, h => by
    rw [cutR, goodS, if_pos (by rw [lenF_txt, nrm_len]; exact h)]
  | p :: t, rs, a, e, h => by
    rw [cutR]; split
    · rw [goodS, if_pos (by rw [lenF_txt, nrm_len]; exact h)]
    · refine long_first lim t _ _ _ ?_; rw [flat_app, List.length_append]; omega
theorem tk_cut (lim : Int) : ∀ (t : List SP) (rs : List Int) (a e : Int), rs ≠ [] → (∀ x ∈ rs, I32 x) → (∀ p ∈ t, fine p) → ((flat rs).length : Int) ≤ lim →
    goodS lim (cutR t rs a e) = (fin (tk lim t (flat rs) a e), (tk lim t (flat rs) a e).2.2.2.2)
  | [], rs, a, e, hne, hrs, _, hl => by
    have h1 : (flat rs).isEmpty = false := by
      cases h : flat rs with
      | nil => exact absurd h (flat_ne rs hne)
      | cons x t => rfl
    rw [cutR, goodS, if_neg (by rw [lenF_txt, nrm_len]; omega), goodS]; simp [tk, fin, h1, txt_flat rs hrs]
  | p :: t, rs, a, e, hne, hrs, hf, hl => by
    have h1 : (flat rs).isEmpty = false := by
      cases h : flat rs with
      | nil => exact absurd h (flat_ne rs hne)
      | cons x t => rfl
    have hp := hf p (List.mem_cons_self ..); (have ht := fun q hq => hf q (List.mem_cons_of_mem _ hq)); (have hfl : flushB (flat rs) p.f0 = opn p.f0 := by unfold flushB; rw [h1]; rfl); (have e1 : flat [p.f0] = decU p.f0 := by simp [flat]); rw [cutR, tk, hfl, txt_flat rs hrs]; by_cases ho : opn p.f0 = true
    · rw [if_pos ho, if_pos ho, goodS, if_neg (by rw [lenF_txt, nrm_len]; omega)]; by_cases hlm : lim < ((decU p.f0).length : Int)
      · rw [if_pos hlm, long_first lim t [p.f0] _ _ (by rw [e1]; exact hlm)]
        rfl
      · rw [if_neg hlm]; have ih := tk_cut lim t [p.f0] p.f1 (p.f1 + p.f2) (by simp) (by intro x hx; rw [List.mem_singleton.1 hx]; exact hp.1) ht (by rw [e1]; omega); rw [e1] at ih; rw [ih]; have := fin_cat [⟨txt rs, a, e⟩] (tk lim t (decU p.f0) p.f1 (p.f1 + p.f2)); unfold catT at this; simp only [List.singleton_append] at this; rw [this]
    · rw [if_neg ho, if_neg ho]; (have e2 : flat (rs ++ [p.f0]) = flat rs ++ decU p.f0 := by rw [flat_app, e1]); by_cases hlm : lim < ((flat rs ++ decU p.f0).length : Int)
      · rw [if_pos hlm, long_first lim t _ _ _ (by rw [e2]; exact hlm)]
        rfl
      · rw [if_neg hlm]; have ih := tk_cut lim t (rs ++ [p.f0]) a (p.f1 + p.f2) (by simp) (by intro x hx; rcases List.mem_append.1 hx with h | h; (· exact hrs x h); (· rw [List.mem_singleton.1 h]; exact hp.1)) ht (by rw [e2]; omega); rw [e2] at ih; exact ih
theorem tk_cutS (lim : Int) (ps : List SP) (hf : ∀ p ∈ ps, fine p) (h0 : ∀ p t, ps = p :: t → p.f1 = 0) :
    goodS lim (cutS ps) = (fin (tk lim ps [] 0 0), (tk lim ps [] 0 0).2.2.2.2) := by
  cases ps with
  | nil => rfl
  | cons p t =>
    have hp := hf p (List.mem_cons_self ..); (have ht := fun q hq => hf q (List.mem_cons_of_mem _ hq)); have hz := h0 p t rfl; (have e1 : flat [p.f0] = decU p.f0 := by simp [flat]); rw [cutS, tk, show flushB [] p.f0 = false from rfl, if_neg (by decide), List.nil_append]; by_cases hlm : lim < ((decU p.f0).length : Int)
    · rw [if_pos hlm, long_first lim t _ _ _ (by rw [e1]; exact hlm)]
      rfl
    · rw [if_neg hlm]; have ih := tk_cut lim t [p.f0] p.f1 (p.f1 + p.f2) (by simp) (by intro x hx; rw [List.mem_singleton.1 hx]; exact hp.1) ht (by rw [e1]; omega); rw [e1] at ih; rw [ih, hz]
theorem full_fine (b : List Int) (hB : Bytes b) (hl : b.length ≤ 100000000) : ∀ p ∈ full b, fine p := by
  have hdl := Ux.dc_len b 0; intro p hp; rcases List.mem_append.1 hp with h | h
  · exact dec_fine b.length b 0 hB (Int.le_refl _) (by omega) p h
  · exact rest_fine _ _ (by omega) (by omega) p h
theorem full_at0 (b : List Int) : ∀ p t, full b = p :: t → p.f1 = 0 := by
  intro p t h
  cases b with
  | nil => cases h
  | cons c r =>
    rw [Bk.full_ful, Bk.ful_cons] at h; rw [← (List.cons.inj h).1]
theorem split_cut (lim : Int) (b : List Int) (hB : Bytes b) (hl : b.length ≤ 100000000) (h1 : 1 ≤ lim) (h2 : lim ≤ 64) : splitF lim b = ((goodS lim (cutS (full b))).1, errOf (goodS lim (cutS (full b))).2) := by
  rw [tk_cutS lim (full b) (full_fine b hB hl) (full_at0 b)]; exact if_neg (by omega)
end Go.Proofs.YthffpkdadffinaaDoor.Sgp
namespace Go.Proofs.YthffpkdadffinaaDoor.Sct
set_option linter.unusedVariables false
set_option linter.unusedSimpArgs false
open Go.RowKit YthffpkdadffinaaDoorW.PrintWords Hp Fm X Va Oa Vp0 Sga Sgb Sgd Sgp
open Go.Proofs.YthffpkdadffinaaDoor.Ve (opn)
def rnC (ps : List SP) (f i : Nat) : List Int := ((ps.take i).drop f).map (·.f0)
theorem rnC_succ (ps : List SP) (f i : Nat) (hf : f ≤ i) (h : i < ps.length) : rnC ps f (i + 1) = rnC ps f i ++ [ps[i].f0] := by
  unfold rnC; rw [List.take_succ_eq_append_getElem h, List.drop_append_of_le_length (by rw [List.length_take]; omega), List.map_append]
  rfl
theorem rnC_self (ps : List SP) (f : Nat) : rnC ps f f = [] := by unfold rnC; rw [List.drop_eq_nil_of_le (by rw [List.length_take]; omega)]; rfl
theorem rnC_len (ps : List SP) (f i : Nat) (h : i ≤ ps.length) : (rnC ps f i).length = i - f := by unfold rnC; simp; omega
theorem rnC_mem (ps : List SP) (f i : Nat) (hf : ∀ p ∈ ps, fine p) : ∀ x ∈ rnC ps f i, I32 x := by
  intro x hx; obtain ⟨p, hp, rfl⟩ := List.mem_map.1 hx; exact (hf p (List.mem_of_mem_take (List.mem_of_mem_drop hp))).1
def atP (ps : List SP) (j : Nat) : SP := ps.getD j ⟨0, 0, 0⟩
theorem atP_eq {ps : List SP} {j : Nat} (h : j < ps.length) : atP ps j = ps[j] := by unfold atP; rw [List.getD_eq_getElem?_getD, List.getElem?_eq_getElem h]; rfl
def segC (ps : List SP) (f i : Nat) : SG := ⟨txt (rnC ps f i), (atP ps f).f1, (atP ps (i - 1)).f1 + (atP ps (i - 1)).f2⟩
def PC (ps : List SP) (i f : Nat) (out : List SG) : Prop := out ++ cutR (ps.drop i) (rnC ps f i) (atP ps f).f1 ((atP ps (i - 1)).f1 + (atP ps (i - 1)).f2) = cutS ps ∧ f < i ∧ out.length ≤ f
def SC (ps : List SP) (i f : Nat) (out : List SG) : Prop := if i ≤ ps.length then PC ps i f out else out = cutS ps
theorem SC_start (ps : List SP) : SC ps 1 0 [] := by
  unfold SC
  cases ps with
  | nil => rfl
  | cons p t =>
    rw [if_pos (by simp)]; refine ⟨?_, by omega, Nat.le_refl _⟩; rw [rnC_succ (p :: t) 0 0 (Nat.le_refl _) (by simp), rnC_self]
    rfl
theorem SC_pc {ps : List SP} {i f : Nat} {out : List SG} (h : SC ps i f out) (hi : i ≤ ps.length) : PC ps i f out := by unfold SC at h; rw [if_pos hi] at h; exact h
theorem SC_end {ps : List SP} {i f : Nat} {out : List SG} (h : SC ps i f out) (hi : ps.length < i) : out = cutS ps := by unfold SC at h; rw [if_neg (by omega)] at h; exact h
theorem SC_no {ps : List SP} {i f : Nat} {out : List SG} (h : PC ps i f out) (hi : i < ps.length) (ho : opn ps[i].f0 = false) : SC ps (i + 1) f out := by
  obtain ⟨h1, h2, h3⟩ := h; unfold SC; rw [if_pos (by omega)]; rw [List.drop_eq_getElem_cons hi, cutR, if_neg (by rw [ho]; decide)] at h1; refine ⟨?_, by omega, h3⟩; rw [rnC_succ ps f i (by omega) hi, Nat.add_sub_cancel, atP_eq hi]; exact h1
theorem SC_cut {ps : List SP} {i f : Nat} {out : List SG} (h : PC ps i f out) (hi : i ≤ ps.length) (ho : ∀ h : i < ps.length, opn ps[i].f0 = true) : SC ps (i + 1) i (out ++ [segC ps f i]) := by
  obtain ⟨h1, h2, h3⟩ := h; unfold SC; by_cases hi2 : i < ps.length
  · rw [if_pos (by omega)]; rw [List.drop_eq_getElem_cons hi2, cutR, if_pos (ho hi2)] at h1; refine ⟨?_, by omega, by rw [List.length_append, List.length_singleton]; omega⟩; rw [rnC_succ ps i i (Nat.le_refl _) hi2, rnC_self, List.nil_append, Nat.add_sub_cancel, atP_eq hi2, List.append_assoc, List.singleton_append]; exact h1
  · (obtain rfl : i = ps.length := by omega); rw [if_neg (by omega)]; rw [List.drop_length, cutR] at h1; exact h1
end Go.Proofs.YthffpkdadffinaaDoor.Sct
namespace Go.Proofs.YthffpkdadffinaaDoor.Scw
set_option linter.unusedVariables false
set_option linter.unusedSimpArgs false
open Go.RowKit YthffpkdadffinaaDoorW.PrintWords Hp Fm Ev0 X Va Oa Vp0 Sga Sgb Sgd Sgp Sct
open Go.Proofs.YthffpkdadffinaaDoor.Ve (opn)
open Go.Proofs.YthffpkdadffinaaDoor.En (enc)
open Go.Proofs.YthffpkdadffinaaDoor.Fr (K3 T3)
theorem ROpenC (w : World) (x : Int) (hx : I32 x) : Calls Tryd.prog 37 #[.int .i32 x] w fun e w' => e = .returned (.bool (opn x)) ∧ Below w.heap.size w w' := by
  obtain ⟨k, hk⟩ := Ev.rounds (Vu.refopn x hx); exact tremaref02_Opens.calls k x _ w hk
theorem REncC (w : World) (A : Option Addr) (n c : Nat) (l : List Int) (hC : K3.C w A n l) (hn : n = l.length) (hc : n ≤ c) (hl : n ≤ 1000000000) :
    Calls Tryd.prog 76 #[.slice A n c] w fun e w' => ∃ v, e = .returned v ∧ KB.R 5 w' w.heap.size (fun _ => True) v (enc l) ∧ Below w.heap.size w w' := by
  subst hn; exact tremaref01_Encode.calls (l.length + 2) A c l (enc l) w hC hc (En.ref_pure l (by omega))
theorem back_wrap {i j : Nat} (hj : i = j + 1) (h : i ≤ 10000001) : wrap64 ((i : Int) - 1) = (j : Int) ∧ IntKind.i64.wrap ((i : Int) - 1) = (j : Int) := by
  (have e1 : wrap64 ((i : Int) - 1) = (j : Int) := by unfold wrap64; omega); exact ⟨e1, by clear e1; rw [IntKind.wrap_i64]; omega⟩
theorem plus_wrap {a b : Int} (h : 0 ≤ a ∧ a ≤ 4000000000000000 ∧ 0 ≤ b ∧ b ≤ 4000000000000000) : wrap64 (a + b) = a + b ∧ IntKind.i64.wrap (a + b) = a + b := by
  (have e1 : wrap64 (a + b) = a + b := by unfold wrap64; omega); exact ⟨e1, by clear e1; rw [IntKind.wrap_i64]; omega⟩
set_option maxRecDepth 100000 in
set_option maxHeartbeats 16000000 in
theorem RCutP (w : World) (A : Option Addr) (n c : Nat) (ps : List SP) (hC : kP.C w A n ps) (hn : n = ps.length) (hc : n ≤ c) (hf : ∀ p ∈ ps, fine p) (hl : n ≤ 10000000) :
    Calls Tryd.prog 46 #[.slice A n c] w fun e w' => ∃ v, e = .returned v ∧ kG.R TG w' w.heap.size (fun _ => True) v (cutS ps) ∧ Below w.heap.size w w' := by
  have HC := Aside0.mk hC; have HN := Aside0.mk hn; have HF := Aside0.mk (show ∀ i (h : i < ps.length), fine ps[i] from fun i h => hf _ (List.getElem_mem h)); have HF2 := Aside0.mk hf; clear hC hn hf; go_enter Tryd.func46, Tryd.ntmps46; go_wp2; go_loopw [3, 4, 5] (fun v3 v4 v5 wr => ∃ (i f : Nat) (out : List SG), 1 ≤ i ∧ i ≤ n + 1 ∧ v5 = .int .i64 i ∧ v4 = .int .i64 f ∧ Aside0 (SC ps i f out) ∧ Aside0 (Sep w [rowT kG TG w.heap.size v3 out] wr)) (fun _ _ v5 _ => n + 2 - (intOf v5).toNat)
  case atStart => exact ⟨1, 0, [], by omega, by omega, rfl, rfl, ⟨SC_start ps⟩, ⟨(Sep.nil w).newR (Kd.R_nil _ _ _ _ _) (Below.refl _ _)⟩⟩
  case round =>
    obtain ⟨i, f, out, hi1, hi2, rfl, rfl, HSC, HS⟩ := hrel; by_cases hlt : i ≤ n
    · have hd : decide ((i : Int) ≤ (n : Int)) = true := decide_eq_true (by omega); have hd' : decide (i ≤ n) = true := decide_eq_true hlt; have HPC := Aside0.mk (SC_pc HSC.out (by rw [← HN.out]; exact hlt)); have hfi := HPC.out.2.1; have hof := HPC.out.2.2; obtain ⟨b, hb⟩ : ∃ b, b = (decide (i < n) && !opn (atP ps i).f0) := ⟨_, rfl⟩; have HB := Aside0.mk hb; clear hb; go_upto_region 6 with (fail); go_cut [26] (fun v26 wq => v26 = .bool b ∧ Aside0 (Sep w [rowT kG TG w.heap.size u3 out] wq))
      case first =>
        by_cases h1 : i < n
        · have d1 : decide ((i : Int) < (n : Int)) = true := decide_eq_true (by omega); have d1' : decide (i < n) = true := decide_eq_true h1; (have hil : i < ps.length := by rw [← HN.out]; exact h1); obtain ⟨ad, rfl, z0, -, -⟩ := pt_at HC.out i h1 hil; have z0 := cell_later HS.out.below z0; have hx := (HF.out i hil).1; have HBX := Aside0.mk (show b = !opn ps[i].f0 by rw [HB.out, d1', Bool.true_and, atP_eq hil]); obtain ⟨x, hxe⟩ : ∃ x, x = ps[i].f0 := ⟨_, rfl⟩; rw [← hxe] at z0 hx HBX; have FO := Aside0.mk (fun W : World => ROpenC W x hx); (have hn0 : (0 : Int) ≤ (i : Int) := by omega); (have hn1 : (i : Int) < (n : Int) := by omega); clear hxe hx; go_wp2_with (go_at_call 37; go_must (refine (FO.out _).mono ?_; rintro E w2 ⟨rfl, p1⟩; have S2 := Aside0.mk (HS.out.later p1); clear p1)); go_meet
          case rel => exact ⟨by rw [HBX.out], S2⟩
        · have d1 : decide ((i : Int) < (n : Int)) = false := decide_eq_false (by omega); have d1' : decide (i < n) = false := decide_eq_false h1; go_wp2; go_meet
          case rel => exact ⟨by rw [HB.out, d1', Bool.false_and], HS⟩
      case rest =>
        obtain ⟨rfl, HS2⟩ := hcut
        cases b with
        | true =>
          have hh := HB.out; go_wp2; go_roundw
          case rel => exact ⟨i + 1, f, out, by omega, by omega, by go_num, rfl, ⟨by
            have h2 : (decide (i < n) && !opn (atP ps i).f0) = true := HB.out.symm; rw [Bool.and_eq_true, decide_eq_true_eq] at h2; (have hil : i < ps.length := by rw [← HN.out]; exact h2.1); refine SC_no HPC.out hil ?_; have h3 := h2.2; rw [atP_eq hil] at h3
            simpa using h3⟩, HS2⟩
          case measure => simp [intOf]; omega
        | false =>
          have HOP := Aside0.mk (show ∀ h : i < ps.length, opn ps[i].f0 = true from fun h => by
            have h2 : (decide (i < n) && !opn (atP ps i).f0) = false := HB.out.symm; rw [decide_eq_true (by rw [HN.out]; exact h), Bool.true_and, atP_eq h] at h2
            simpa using h2)
          (have hip : i ≤ ps.length := by rw [← HN.out]; exact hlt); (have hfn : f < n := by omega); have HS0 := Aside0.mk (show Sep w [rowT kG TG w.heap.size u3 out, rowT K3 T3 w.heap.size (.slice none 0 0) (rnC ps f f)] wc from by rw [rnC_self]; exact HS2.out.newR (Kd.R_nil _ _ _ _ _) (Below.refl _ _)); clear HS HS2; go_wp2; go_loopw [6, 7] (fun v6 v7 wr => ∃ k : Nat, f ≤ k ∧ k ≤ i ∧ v7 = .int .i64 k ∧ Aside0 (Sep w [rowT kG TG w.heap.size u3 out, rowT K3 T3 w.heap.size v6 (rnC ps f k)] wr)) (fun _ v7 _ => i - (intOf v7).toNat)
          case atStart => exact ⟨f, Nat.le_refl _, Nat.le_of_lt hfi, rfl, HS0⟩
          case round =>
            obtain ⟨k, hk1, hk2, rfl, HV⟩ := hrel; clear HS0; by_cases hki : k < i
            · have hd2 : decide ((k : Int) < (i : Int)) = true := decide_eq_true (by omega); have hd2' : decide (k < i) = true := decide_eq_true hki; (have hkn : k < n := by omega); (have hkl : k < ps.length := by omega); obtain ⟨ad, rfl, z0, -, -⟩ := pt_at HC.out k hkn hkl; have z0 := cell_later HV.out.below z0; have HRS := Aside0.mk (rnC_succ ps f k hk1 hkl); have hrl := rnC_len ps f k (by omega); obtain ⟨x, hx⟩ : ∃ x, x = ps[k].f0 := ⟨_, rfl⟩; rw [← hx] at z0 HRS; have HLT := Aside0.mk (show ((rnC ps f k).length + ([x] : List Int).length) * 4 ≤ 140737488355328 by rw [hrl]; simp; omega); (have hn0 : (0 : Int) ≤ (k : Int) := by omega); (have hn1 : (k : Int) < (n : Int) := by omega); clear hx hrl; go_wp2_with (first | ((with_reducible refine gate_dst (N := 39) rfl ?_); refine Kd.R_lit K3 _ T3 ?hg (N := 39) ?hd (xs := ([x] : List Int)) (inner := [.int .i32 x]) (ok := fun _ => True) (okp := fun _ => True) ?hr (Reps.one (by rfl) (Reps.none _ _)) (fun _ hk => hk) trivial (Below.refl _ _) (Nat.le_refl _) (by simp) ?_; (case hd => rfl); (case hg => rfl); (case hr => first | (go_simp; done) | (go_simp; rfl)); intro v2 w3 hR_ hb_ hg_ hnew_; obtain ⟨A2, c2, rfl, hc2, hC2⟩ := Kd.R_reads hR_; have C2 := Aside0.mk hC2; have S3 := Aside0.mk (HV.out.later hb_); clear hR_ hb_ hg_ hnew_ hC2) | ((with_reducible refine gate_builtin (b := .append) (xs := #[.tmp 33, .tmp 39]) rfl ?_); at_builtin; go_must (obtain ⟨ok_, q1, q2, q3⟩ := Sep.row (d := K3) (e := T3) (base := w.heap.size) (v := u6) (xs := rnC ps f k) S3.out 1 rfl; (refine Kd.R_append_rows K3 (Rr := K3.K w3) (w0 := w3) w.heap.size rfl (.tmp 33) (.tmp 39) 42 T3 (.int .i32 0) 4 rfl Tryd.underlying42 info21 rfl (by decide) (by decide) u6 (rnC ps f k) ([x] : List Int) A2 ([x] : List Int).length c2 ok_ (fun _ => False) rfl rfl q1 C2.out (fun _ _ h => h) (fun _ h => h.elim) q2 (Below.refl _ _) S3.out.below.size HLT.out ?_); intro v1 w1 hR_ hb_ hg_ hat_; have S4 := Aside0.mk (q3 v1 w1 _ hR_ hg_); clear hR_ hb_ hg_ hat_ q1 q2 q3))); go_roundw
              case rel => exact ⟨k + 1, by omega, by omega, by go_num, ⟨by rw [HRS.out]; exact S4.out⟩⟩
              case measure => simp [intOf]; omega
            · (obtain rfl : k = i := by omega); have hd2 : decide ((k : Int) < (k : Int)) = false := decide_eq_false (by omega); have hd2' : decide (k < k) = false := decide_eq_false (by omega); have hrl := rnC_len ps f k hip; obtain ⟨m, hm⟩ : ∃ m, m = (rnC ps f k).length := ⟨_, rfl⟩; obtain ⟨A6, c6, rfl, hc6, hC6⟩ := Sep.reads (d := K3) (e := T3) (base := w.heap.size) (v := u6) (xs := rnC ps f k) HV.out 1 rfl; rw [← hm] at HV hc6 hC6 ⊢; (have hmn : m ≤ 10000000 := by omega); have h32 := rnC_mem ps f k HF2.out; obtain ⟨nr, hnr⟩ : ∃ nr, nr = nrm (rnC ps f k) := ⟨_, rfl⟩; have hnl := nrm_len3 (rnC ps f k) h32; rw [← hnr, ← hm] at hnl; have FN := Aside0.mk (show ∀ W, Below w.heap.size w W → K3.C W A6 m (rnC ps f k) → Calls Tryd.prog 74 #[.slice A6 m c6] W fun e w' => ∃ v, e = .returned v ∧ K3.R T3 w' W.heap.size (fun _ => True) v nr ∧ Below W.heap.size W w' from fun W _ hCW => by rw [hnr]; exact Cn.RNormR W A6 m c6 _ hCW hm hc6 h32 (by omega)); have FE := Aside0.mk (show ∀ W A' c', K3.C W A' nr.length nr → nr.length ≤ c' → Calls Tryd.prog 76 #[.slice A' nr.length c'] W fun e w' => ∃ v, e = .returned v ∧ KB.R 5 w' W.heap.size (fun _ => True) v (enc nr) ∧ Below W.heap.size W w' from fun W A' c' h1 h2 => REncC W A' nr.length c' nr h1 rfl h2 (by omega)); obtain ⟨j, hj⟩ : ∃ j, k = j + 1 := ⟨k - 1, by omega⟩; obtain ⟨ad, rfl, -, z1, -⟩ := pt_at HC.out f hfn (by omega); obtain ⟨_, hae, -, y1, y2⟩ := pt_at HC.out j (by omega) (by omega); obtain rfl := Option.some.inj hae; have hfj := HF.out j (by omega); obtain ⟨a1, ha1⟩ : ∃ a1, a1 = (ps[f]'(by omega)).f1 := ⟨_, rfl⟩; obtain ⟨e1, he1⟩ : ∃ e1, e1 = (ps[j]'(by omega)).f1 := ⟨_, rfl⟩; obtain ⟨e2, he2⟩ : ∃ e2, e2 = (ps[j]'(by omega)).f2 := ⟨_, rfl⟩; rw [← ha1] at z1; rw [← he1] at y1; rw [← he2] at y2
              have HSG := Aside0.mk (show segC ps f k = ⟨strOfNums (enc nr), a1, e1 + e2⟩ by
                unfold segC txt
                rw [atP_eq (show f < ps.length by omega), show k - 1 = j by omega, atP_eq (show j < ps.length by omega), hnr, ha1, he1, he2])
              have hpw := plus_wrap (a := e1) (b := e2) (by rw [he1, he2]; exact ⟨hfj.2.1, hfj.2.2.1, hfj.2.2.2.1, hfj.2.2.2.2⟩); have Z1 := Aside0.mk z1; have Y1 := Aside0.mk y1; have Y2 := Aside0.mk y2; (have hol : (out.length + 1) * 32 ≤ 140737488355328 := by omega); have HOL := Aside0.mk hol; (have hj0 : (0 : Int) ≤ (j : Int) := by omega); (have hj1 : (j : Int) < (n : Int) := by omega); (have hj2 : j < n := by omega); have hj3 : (n ≤ j) = False := eq_false (by omega); (have hf0 : (0 : Int) ≤ (f : Int) := by omega); (have hf1 : (f : Int) < (n : Int) := by omega); have hf3 : (n ≤ f) = False := eq_false (by omega); have hbw := back_wrap hj (by omega); have HBW := Aside0.mk hbw; have HPW := Aside0.mk hpw; clear hbw hpw z1 y1 y2 ha1 he1 he2 hfj hj hnr hnl hm hrl h32 hC6 hae hol; go_upto_region 12 with (fail); have SD := Aside0.mk (HV.out.later ((Drawn0.refl wr).step 1).below); have CD := Aside0.mk ((Sep.rows (d := K3) (e := T3) (base := w.heap.size) (A := A6) (m := m) (c := c6) (xs := rnC ps f k) SD.out 1 rfl).2.2); have hbw1 := HBW.out.1; have hbw2 := HBW.out.2; have hpw1 := HPW.out.1; have hpw2 := HPW.out.2; refine wp_region_held_drew (S := fun W => Below w.heap.size w W) (by kernel_rfl) SD.out.below (fun hS => ?_); refine wpAnyH_take (i := 0) (oi := { dst := some 41, op := _, type := _, pos := _, after := _, guard := _ }) (v := u3) rfl (by kernel_rfl) (by kernel_rfl) (by kernel_rfl) (fun _ _ _ h => h) (Or.inl ⟨by rfl, fun W hW => ?_⟩) hS ?_
              · (go_simp)
              (try simp only [Act.put, List.setIfInBounds_toArray, List.set_cons_zero, List.set_cons_succ]); refine wpAnyH_take (i := 1) (oi := { dst := some 42, op := _, type := _, pos := _, after := _, guard := _ }) (v := .slice A6 m c6) rfl (by kernel_rfl) (by kernel_rfl) (by kernel_rfl) (fun _ _ _ h => h) (Or.inl ⟨by rfl, fun W hW => ?_⟩) hS ?_
              · (go_simp)
              (try simp only [Act.put, List.setIfInBounds_toArray, List.set_cons_zero, List.set_cons_succ]); refine wpAnyH_take (i := 5) (oi := { dst := some 46, op := _, type := _, pos := _, after := _, guard := _ }) (v := .slice (some ad) n c) rfl (by kernel_rfl) (by kernel_rfl) (by kernel_rfl) (fun _ _ _ h => h) (Or.inl ⟨by rfl, fun W hW => ?_⟩) hS ?_
              · (go_simp)
              (try simp only [Act.put, List.setIfInBounds_toArray, List.set_cons_zero, List.set_cons_succ]); refine wpAnyH_take (i := 6) (oi := { dst := some 47, op := _, type := _, pos := _, after := _, guard := _ }) (v := .int .i64 (f : Int)) rfl (by kernel_rfl) (by kernel_rfl) (by kernel_rfl) (fun _ _ _ h => h) (Or.inl ⟨by rfl, fun W hW => ?_⟩) hS ?_
              · (go_simp)
              (try simp only [Act.put, List.setIfInBounds_toArray, List.set_cons_zero, List.set_cons_succ]); refine wpAnyH_take (i := 7) (oi := { dst := some 48, op := _, type := _, pos := _, after := _, guard := _ }) (v := .pointer (some (ad.add (f * 3)))) rfl (by kernel_rfl) (by kernel_rfl) (by kernel_rfl) (fun _ _ _ h => h) (Or.inl ⟨by rfl, fun W hW => ?_⟩) hS ?_
              · (go_simp)
              (try simp only [Act.put, List.setIfInBounds_toArray, List.set_cons_zero, List.set_cons_succ]); refine wpAnyH_take (i := 8) (oi := { dst := some 49, op := _, type := _, pos := _, after := _, guard := _ }) (v := .pointer (some ⟨(ad.add (f * 3)).block, (ad.add (f * 3)).off + 1, none⟩)) rfl (by kernel_rfl) (by kernel_rfl) (by kernel_rfl) (fun _ _ _ h => h) (Or.inl ⟨by rfl, fun W hW => ?_⟩) hS ?_
              · (go_simp)
              (try simp only [Act.put, List.setIfInBounds_toArray, List.set_cons_zero, List.set_cons_succ]); refine wpAnyH_take (i := 9) (oi := { dst := some 50, op := _, type := _, pos := _, after := _, guard := _ }) (v := .int .i64 a1) rfl (by kernel_rfl) (by kernel_rfl) (by kernel_rfl) (fun _ _ _ h => h) (Or.inl ⟨by rfl, fun W hW => ?_⟩) hS ?_
              · (have hcell := cell_later hW Z1.out; go_simp)
              (try simp only [Act.put, List.setIfInBounds_toArray, List.set_cons_zero, List.set_cons_succ]); refine wpAnyH_take (i := 10) (oi := { dst := some 51, op := _, type := _, pos := _, after := _, guard := _ }) (v := .slice (some ad) n c) rfl (by kernel_rfl) (by kernel_rfl) (by kernel_rfl) (fun _ _ _ h => h) (Or.inl ⟨by rfl, fun W hW => ?_⟩) hS ?_
              · (go_simp)
              (try simp only [Act.put, List.setIfInBounds_toArray, List.set_cons_zero, List.set_cons_succ]); refine wpAnyH_take (i := 11) (oi := { dst := some 52, op := _, type := _, pos := _, after := _, guard := _ }) (v := .int .i64 (k : Int)) rfl (by kernel_rfl) (by kernel_rfl) (by kernel_rfl) (fun _ _ _ h => h) (Or.inl ⟨by rfl, fun W hW => ?_⟩) hS ?_
              · (go_simp)
              (try simp only [Act.put, List.setIfInBounds_toArray, List.set_cons_zero, List.set_cons_succ]); refine wpAnyH_take (i := 12) (oi := { dst := some 53, op := _, type := _, pos := _, after := _, guard := _ }) (v := .int .i64 (j : Int)) rfl (by kernel_rfl) (by kernel_rfl) (by kernel_rfl) (fun _ _ _ h => h) (Or.inl ⟨by rfl, fun W hW => ?_⟩) hS ?_
              · (go_simp)
              (try simp only [Act.put, List.setIfInBounds_toArray, List.set_cons_zero, List.set_cons_succ]); refine wpAnyH_take (i := 13) (oi := { dst := some 54, op := _, type := _, pos := _, after := _, guard := _ }) (v := .pointer (some (ad.add (j * 3)))) rfl (by kernel_rfl) (by kernel_rfl) (by kernel_rfl) (fun _ _ _ h => h) (Or.inl ⟨by rfl, fun W hW => ?_⟩) hS ?_
              · (go_simp)
              (try simp only [Act.put, List.setIfInBounds_toArray, List.set_cons_zero, List.set_cons_succ]); refine wpAnyH_take (i := 14) (oi := { dst := some 55, op := _, type := _, pos := _, after := _, guard := _ }) (v := .pointer (some ⟨(ad.add (j * 3)).block, (ad.add (j * 3)).off + 1, none⟩)) rfl (by kernel_rfl) (by kernel_rfl) (by kernel_rfl) (fun _ _ _ h => h) (Or.inl ⟨by rfl, fun W hW => ?_⟩) hS ?_
              · (go_simp)
              (try simp only [Act.put, List.setIfInBounds_toArray, List.set_cons_zero, List.set_cons_succ]); refine wpAnyH_take (i := 15) (oi := { dst := some 56, op := _, type := _, pos := _, after := _, guard := _ }) (v := .int .i64 e1) rfl (by kernel_rfl) (by kernel_rfl) (by kernel_rfl) (fun _ _ _ h => h) (Or.inl ⟨by rfl, fun W hW => ?_⟩) hS ?_
              · (have hcell := cell_later hW Y1.out; go_simp)
              (try simp only [Act.put, List.setIfInBounds_toArray, List.set_cons_zero, List.set_cons_succ]); refine wpAnyH_take (i := 16) (oi := { dst := some 57, op := _, type := _, pos := _, after := _, guard := _ }) (v := .slice (some ad) n c) rfl (by kernel_rfl) (by kernel_rfl) (by kernel_rfl) (fun _ _ _ h => h) (Or.inl ⟨by rfl, fun W hW => ?_⟩) hS ?_
              · (go_simp)
              (try simp only [Act.put, List.setIfInBounds_toArray, List.set_cons_zero, List.set_cons_succ]); refine wpAnyH_take (i := 17) (oi := { dst := some 58, op := _, type := _, pos := _, after := _, guard := _ }) (v := .int .i64 (k : Int)) rfl (by kernel_rfl) (by kernel_rfl) (by kernel_rfl) (fun _ _ _ h => h) (Or.inl ⟨by rfl, fun W hW => ?_⟩) hS ?_
              · (go_simp)
              (try simp only [Act.put, List.setIfInBounds_toArray, List.set_cons_zero, List.set_cons_succ]); refine wpAnyH_take (i := 18) (oi := { dst := some 59, op := _, type := _, pos := _, after := _, guard := _ }) (v := .int .i64 (j : Int)) rfl (by kernel_rfl) (by kernel_rfl) (by kernel_rfl) (fun _ _ _ h => h) (Or.inl ⟨by rfl, fun W hW => ?_⟩) hS ?_
              · (go_simp)
              (try simp only [Act.put, List.setIfInBounds_toArray, List.set_cons_zero, List.set_cons_succ]); refine wpAnyH_take (i := 19) (oi := { dst := some 60, op := _, type := _, pos := _, after := _, guard := _ }) (v := .pointer (some (ad.add (j * 3)))) rfl (by kernel_rfl) (by kernel_rfl) (by kernel_rfl) (fun _ _ _ h => h) (Or.inl ⟨by rfl, fun W hW => ?_⟩) hS ?_
              · (go_simp)
              (try simp only [Act.put, List.setIfInBounds_toArray, List.set_cons_zero, List.set_cons_succ]); refine wpAnyH_take (i := 20) (oi := { dst := some 61, op := _, type := _, pos := _, after := _, guard := _ }) (v := .pointer (some ⟨(ad.add (j * 3)).block, (ad.add (j * 3)).off + 2, none⟩)) rfl (by kernel_rfl) (by kernel_rfl) (by kernel_rfl) (fun _ _ _ h => h) (Or.inl ⟨by rfl, fun W hW => ?_⟩) hS ?_
              · (go_simp)
              (try simp only [Act.put, List.setIfInBounds_toArray, List.set_cons_zero, List.set_cons_succ]); refine wpAnyH_take (i := 21) (oi := { dst := some 62, op := _, type := _, pos := _, after := _, guard := _ }) (v := .int .i64 e2) rfl (by kernel_rfl) (by kernel_rfl) (by kernel_rfl) (fun _ _ _ h => h) (Or.inl ⟨by rfl, fun W hW => ?_⟩) hS ?_
              · (have hcell := cell_later hW Y2.out; go_simp)
              (try simp only [Act.put, List.setIfInBounds_toArray, List.set_cons_zero, List.set_cons_succ]); refine wpAnyH_take (i := 22) (oi := { dst := some 63, op := _, type := _, pos := _, after := _, guard := _ }) (v := .int .i64 (e1 + e2)) rfl (by kernel_rfl) (by kernel_rfl) (by kernel_rfl) (fun _ _ _ h => h) (Or.inl ⟨by rfl, fun W hW => ?_⟩) hS ?_
              · (go_simp)
              (try simp only [Act.put, List.setIfInBounds_toArray, List.set_cons_zero, List.set_cons_succ]); refine wpAnyH_ready (rs := [2]) (by kernel_rfl) (by simp) ?_; refine AllReadyH.cons (o := { dst := some 43, op := _, type := _, pos := _, after := _, guard := _ }) rfl (fun K hK => ?_) AllReadyH.nil; go_simp
              (go_at_call 74)
              refine (FN.out _ SD.out.below CD.out).mono ?_; rintro E w5 ⟨v5, rfl, p0, p1⟩; obtain ⟨A7, c7, rfl, hc7, hC7⟩ := Kd.R_reads p0; have S5 := Aside0.mk (SD.out.later p1); clear p0 p1; go_wp2_with fail; refine hK.out _ _ S5.out.below (fun hS2 => ?_); clear hK K hS; have hS := hS2; clear hS2; (try simp only [Act.put, List.setIfInBounds_toArray, List.set_cons_zero, List.set_cons_succ]); refine wpAnyH_ready (rs := [3]) (by kernel_rfl) (by simp) ?_; refine AllReadyH.cons (o := { dst := some 44, op := _, type := _, pos := _, after := _, guard := _ }) rfl (fun K hK => ?_) AllReadyH.nil; go_simp
              (go_at_call 76)
              refine (FE.out _ A7 c7 hC7 hc7).mono ?_; rintro E w6 ⟨v6, rfl, p0, p1⟩; obtain ⟨A8, c8, rfl, hc8, hC8⟩ := Kd.R_reads p0; have S6 := Aside0.mk (S5.out.later p1); have hcv := Sx.reads_string (P := Tryd.prog) (c := c8) Tryd.underlying23 Tryd.underlying5 Tryd.underlying9 (rdint hC8); clear p0 p1; go_wp2_with fail; refine hK.out _ _ S6.out.below (fun hS2 => ?_); clear hK K hS; have hS := hS2; clear hS2; (try simp only [Act.put, List.setIfInBounds_toArray, List.set_cons_zero, List.set_cons_succ]); refine wpAnyH_ready (rs := [4]) (by kernel_rfl) (by simp) ?_; refine AllReadyH.cons (o := { dst := some 45, op := _, type := _, pos := _, after := _, guard := _ }) rfl (fun K hK => ?_) AllReadyH.nil; go_simp; refine hK.out _ _ S6.out.below (fun hS2 => ?_); clear hK K hS; have hS := hS2; clear hS2; (try simp only [Act.put, List.setIfInBounds_toArray, List.set_cons_zero, List.set_cons_succ]); clear hcv; obtain ⟨tx, htx⟩ : ∃ tx, tx = strOfNums (enc nr) := ⟨_, rfl⟩; rw [← htx] at HSG ⊢; obtain ⟨x, hx⟩ : ∃ x : SG, x = ⟨tx, a1, e1 + e2⟩ := ⟨_, rfl⟩; rw [← hx] at HSG; have HXX := Aside0.mk hx; clear htx hx; refine wpAnyH_take (i := 23) (oi := { dst := some 64, op := _, type := _, pos := _, after := _, guard := _ }) (v := .agg #[.string tx, .int .i64 a1, .int .i64 (e1 + e2)]) rfl (by kernel_rfl) (by kernel_rfl) (by kernel_rfl) (fun _ _ _ h => h) (Or.inl ⟨by rfl, fun W hW => ?_⟩) hS ?_
              · (go_simp)
              (try simp only [Act.put, List.setIfInBounds_toArray, List.set_cons_zero, List.set_cons_succ]); refine wpAnyH_ready (rs := [24]) (by kernel_rfl) (by simp) ?_; refine AllReadyH.cons (o := { dst := some 65, op := _, type := _, pos := _, after := _, guard := _ }) rfl (fun K hK => ?_) AllReadyH.nil; refine Kd.R_lit_step kG _ TG (by rfl) (N := 65) rfl (xs := [x]) (inner := [.string tx, .int .i64 a1, .int .i64 (e1 + e2)]) (ok := fun _ => True) (okp := fun _ => True) ?hr (Reps.c3 ?hm (Reps.none _ _)) (fun _ hk => hk) trivial (Below.refl _ _) (Nat.le_refl _) (by simp) (fun v9 w9 hR9 hb9 hg9 hat9 => ?_)
              case hr => first | (go_simp; done) | (go_simp; rfl)
              case hm => rw [HXX.out]; exact k67_mkM _ _ _ _
              obtain ⟨A9, c9, rfl, hc9, hC9⟩ := Kd.R_reads hR9; have S9 := Aside0.mk (S6.out.later hb9); clear hR9 hb9 hg9 hat9; refine hK.out _ _ S9.out.below (fun hS2 => ?_); clear hK K hS; have hS := hS2; clear hS2; (try simp only [Act.put, List.setIfInBounds_toArray, List.set_cons_zero, List.set_cons_succ]); refine wpAnyH_ready (rs := [25]) (by kernel_rfl) (by simp) ?_; refine AllReadyH.cons (o := { dst := some 66, op := _, type := _, pos := _, after := _, guard := _ }) rfl (fun K hK => ?_) AllReadyH.nil; obtain ⟨ok7, q1, q2, q3⟩ := Sep.row (d := kG) (e := TG) (base := w.heap.size) (v := u3) (xs := out) S9.out 0 rfl; refine Kd.R_append_rows_step kG (Rr := kG.K w9) (w0 := w9) w.heap.size (by rfl) (.tmp 41) (.tmp 65) 29 TG (.agg #[.string ⟨#[]⟩, .int .i64 0, .int .i64 0]) 32 rfl Tryd.underlying29 info67 rfl (by decide) (by decide) u3 out [x] A9 [x].length c9 ok7 (fun _ => False) rfl rfl q1 hC9 (fun x cs h => kG_KM x cs h) (fun _ h => h.elim) q2 (Below.refl _ _) S9.out.below.size HOL.out (fun v7 w7 hR7 hb7 hg7 hat7 => ?_); have S7 := Aside0.mk (q3 v7 w7 _ hR7 hg7); clear q1 q2 q3 hR7 hb7 hg7 hat7; refine hK.out _ _ S7.out.below (fun hS2 => ?_); clear hK K hS; have hS := hS2; clear hS2; (try simp only [Act.put, List.setIfInBounds_toArray, List.set_cons_zero, List.set_cons_succ]); refine wpAnyH_take (i := 26) (oi := { dst := some 3, op := _, type := _, pos := _, after := _, guard := _ }) (v := v7) rfl (by kernel_rfl) (by kernel_rfl) (by kernel_rfl) (fun _ _ _ h => h) (Or.inl ⟨by rfl, fun W hW => ?_⟩) hS ?_
              · (go_simp)
              (try simp only [Act.put, List.setIfInBounds_toArray, List.set_cons_zero, List.set_cons_succ]); refine wpAnyH_done (by kernel_rfl) ?_ _; clear hbw1 hbw2 hpw1 hpw2; go_wp2; go_roundw
              case rel => exact ⟨k + 1, k, out ++ [x], by omega, by omega, by go_num, rfl, ⟨by have h := SC_cut HPC.out hip HOP.out; rw [HSG.out] at h; exact h⟩, ⟨Sep.init S7.out⟩⟩
              case measure => simp [intOf]; omega
    · (obtain rfl : i = n + 1 := by omega); have hd : decide (((n + 1 : Nat) : Int) ≤ (n : Int)) = false := decide_eq_false (by omega); have hd2 : decide ((n : Int) + 1 ≤ (n : Int)) = false := decide_eq_false (by omega); have hd3 : decide (n + 1 ≤ n) = false := decide_eq_false (by omega); have he := SC_end HSC.out (by rw [← HN.out]; omega); have HE := Aside0.mk he; clear he hlt; go_wp2; go_ret; obtain ⟨ok, h⟩ := Sep.one HS.out 0 _ rfl; refine ⟨_, rfl, ?_, HS.out.below⟩; rw [← HE.out]; exact Kd.R_mono h (fun _ _ => trivial)
end Go.Proofs.YthffpkdadffinaaDoor.Scw
namespace Go.Proofs.YthffpkdadffinaaDoor.Scw
set_option linter.unusedVariables false
set_option linter.unusedSimpArgs false
open Go.RowKit YthffpkdadffinaaDoorW.PrintWords Sgb Vp0
instance decFine : DecidablePred fine := fun p => by unfold fine I32; infer_instance
end Go.Proofs.YthffpkdadffinaaDoor.Scw
namespace Go.Proofs.YthffpkdadffinaaDoor.X
set_option linter.unusedVariables false
set_option linter.unusedSimpArgs false
open Go.RowKit YthffpkdadffinaaDoorW.PrintWords
open Go.Proofs.YthffpkdadffinaaDoor.Scw (decFine)
def tremaref04_cut.f (_ : Nat) (l0 : List S103) : Option (List S67) := if (∀ p ∈ l0, Sgb.fine p) ∧ l0.length ≤ 10000000 then some (Sgp.cutS l0) else none
theorem tremaref04_cut.mono : ∀ a0 k, LeO (tremaref04_cut.f k a0) (tremaref04_cut.f (k + 1) a0) := fun _ _ _ h => h
theorem tremaref04_cut.calls (k : Nat) (A0 : Option Addr) (c0 : Nat) (l0 : List S103) (r : List S67) (w : World) (hr0 : Kd.C k103 w A0 l0.length l0) (hc0 : l0.length ≤ c0) (h : tremaref04_cut.f k l0 = some r) :
  Calls Tryd.prog 46 #[.slice A0 l0.length c0] w fun e w' => ∃ v0_ : Value, e = .returned v0_ ∧ Kd.R k67 67 w' w.heap.size (fun _ => True) v0_ r ∧ Below w.heap.size w w' := by
  unfold tremaref04_cut.f at h; split at h
  · rename_i hh; cases Option.some.inj h; exact Scw.RCutP w A0 l0.length c0 l0 hr0 rfl hc0 hh.1 hh.2
  · cases h
end Go.Proofs.YthffpkdadffinaaDoor.X
namespace Go.Proofs.YthffpkdadffinaaDoor.X
open Go.RowKit YthffpkdadffinaaDoorW.PrintWords YthffpkdadffinaaDoorW.PrintLast YthffpkdadffinaaDoorW.PrintMore
attribute [local go_sem] max2_int min2_int max_two min_two max_three min_three max_four min_four   
set_option linter.unusedVariables false
set_option linter.unusedSimpArgs false
def tremaref04_All.f (k : Nat) (l0 : List Int) : Option ((List (S67))) := (tremaref01_Decode.f k l0 false).bind fun t205 => ((tremaref04_cut.f k t205).bind fun t208 => (some t208))
theorem tremaref04_All.mono : ∀ a0 k, LeO (tremaref04_All.f k a0) (tremaref04_All.f (k + 1) a0) := by
 intro a0 k; unfold tremaref04_All.f; repeat' first | (with_reducible exact tremaref01_Decode.mono _ _ _) | (with_reducible exact tremaref04_cut.mono _ _) | (with_reducible exact LeO.refl _) | (with_reducible exact LeO.none _) | (with_reducible refine LeO.ite ?_ ?_) | (with_reducible refine LeO.bind ?_ (fun _ => ?_)) | exact tremaref01_Decode.mono _ _ _ | exact tremaref04_cut.mono _ _ | exact LeO.none _ | refine LeO.ite ?_ ?_ | refine LeO.bind ?_ (fun _ => ?_)
set_option maxHeartbeats 8000000 in
set_option maxRecDepth 100000 in
theorem tremaref04_All.calls (k : Nat) (A0 : Option Addr) (c0 : Nat) (l0 : List Int) (r : List (S67)) (w : World) (hr0 : Kd.C (Kd.int .u8) w A0 l0.length l0) (hc0 : l0.length ≤ c0) (h : tremaref04_All.f k l0 = some r) :
  Calls Tryd.prog 52 #[.slice A0 l0.length c0] w fun e w' => ∃ v0_ : Value, e = .returned (v0_) ∧ Kd.R k67 67 w' w.heap.size (fun _ => True) v0_ r ∧ Below w.heap.size w w' := by
 have HR0 := Aside0.mk hr0; have HC0 := Aside0.mk hc0; clear hr0 hc0; have HB := Aside0.mk (Below.refl w.heap.size w); have H : ((tremaref01_Decode.f k l0 false).bind fun t205 => ((tremaref04_cut.f k t205).bind fun t208 => (some t208))) = some r := h; clear h; replace H := Option.bind_eq_some_iff.mp H; obtain ⟨t205, A20, H⟩ := H; (try dsimp only at H); have A2 := Aside0.mk A20; clear A20; replace H := Option.bind_eq_some_iff.mp H; obtain ⟨t208, A30, H⟩ := H; replace H : (some t208) = some r := H; have A3 := Aside0.mk A30; clear A30; obtain rfl := Option.some.inj H; go_enter Tryd.func52, Tryd.ntmps52; go_wp2_with (first | ((with_reducible refine gate_callee (f := 47) rfl ?_); refine goesL_ (some 4) rfl rfl Tryd.func47 (by kernel_rfl) rfl #[.slice A0 l0.length c0, .bool false] rfl (by (try simp only [List.map_toArray, List.map_cons, List.map_nil]); first | done | rfl | (simp only [List.length_drop, List.length_take]; rfl)) ?_; (with_reducible refine (tremaref01_Decode.calls k _ _ l0 false t205 _ ?side1 ?side2 A2.out).mono ?_); (case side1 => repeat (first | exact HR0.out | (with_reducible refine Kd.C_alloc ?_ _) | (with_reducible refine Kd.C_drewN ?_ _) | (with_reducible refine Kd.C_drew ?_))); (case side2 => exact HC0.out); rintro e w4 ⟨v206, rfl, ho0, hb⟩; refine ⟨_, rfl, ?_⟩; have n0_ := Aside0.mk (Kd.R_lower ho0 (below_size (by repeat (first | (with_reducible first | exact HB.out | apply below_alloc | apply pw_below_drewN | apply below_drew1) | exact HB.out)))); have n1_ := Aside0.mk (below_step (by repeat (first | (with_reducible first | exact HB.out | apply below_alloc | apply pw_below_drewN | apply below_drew1) | exact HB.out)) hb); clear HB; have HO207 := n0_; have HB := n1_; clear n0_ n1_; (try clear hb); (try clear hb2); (try clear hk); (try clear hi); (try clear ho0); obtain ⟨Ao5, co5, eo5⟩ := Kd.R_slice HO207.out; subst eo5) | ((with_reducible refine gate_callee (f := 46) rfl ?_); refine goesL_ (some 5) rfl rfl Tryd.func46 (by kernel_rfl) rfl #[.slice Ao5 t205.length co5] rfl (by (try simp only [List.map_toArray, List.map_cons, List.map_nil]); first | done | rfl | (simp only [List.length_drop, List.length_take]; rfl)) ?_; (with_reducible refine (tremaref04_cut.calls k _ _ t205 t208 _ ?side1 ?side2 A3.out).mono ?_); (case side1 => repeat (first | exact (Kd.R_reads' HO207.out).2.2 | (with_reducible refine Kd.C_alloc ?_ _) | (with_reducible refine Kd.C_drewN ?_ _) | (with_reducible refine Kd.C_drew ?_))); (case side2 => exact (Kd.R_reads' HO207.out).2.1); rintro e w6 ⟨v209, rfl, ho0, hb⟩; refine ⟨_, rfl, ?_⟩; have n0_ := Aside0.mk (Kd.R_below (by (with_reducible repeat (first | apply Kd.R_alloc | apply Kd.R_drewN | apply Kd.R_drew)); exact HO207.out) hb); have n1_ := Aside0.mk (Kd.R_lower ho0 (below_size (by repeat (first | (with_reducible first | exact HB.out | apply below_alloc | apply pw_below_drewN | apply below_drew1) | exact HB.out)))); have n2_ := Aside0.mk (below_step (by repeat (first | (with_reducible first | exact HB.out | apply below_alloc | apply pw_below_drewN | apply below_drew1) | exact HB.out)) hb); clear HO207; clear HB; have HO207 := n0_; have HO210 := n1_; have HB := n2_; clear n0_ n1_ n2_; (try clear hb); (try clear hb2); (try clear hk); (try clear hi); (try clear ho0))); go_ret; exact ⟨_, by first | rfl | (simp [errW_none, errW_some] <;> rfl) | (simp [*, errW_none, errW_some] <;> rfl), by (with_reducible repeat (first | apply Kd.R_alloc | apply Kd.R_drewN | apply Kd.R_drew)); exact HO210.out, by repeat (first | (with_reducible first | exact HB.out | apply below_alloc | apply pw_below_drewN | apply below_drew1) | exact HB.out)⟩
end Go.Proofs.YthffpkdadffinaaDoor.X
namespace Go.Proofs.YthffpkdadffinaaDoor.X
open Go.RowKit YthffpkdadffinaaDoorW.PrintWords YthffpkdadffinaaDoorW.PrintLast YthffpkdadffinaaDoorW.PrintMore
attribute [local go_sem] max2_int min2_int max_two min_two max_three min_three max_four min_four   
set_option linter.unusedVariables false
set_option linter.unusedSimpArgs false
def tremaref04_good.l0 : Nat → List (S67) → Int → Int → Option ((List (S67)) × Bool)
 | 0, _, _, _ => none
 | k + 1, x0, x1, x6 => if x6 < (x0.length : Int) then (if 0 ≤ x6 then ((tremaref04_Length.f ((rd_T67 x0 x6).f0) ((rd_T67 x0 x6).f1) ((rd_T67 x0 x6).f2)).bind fun t201 => (if t201 > x1 then (if x6 ≤ (x0.length : Int) then (some ((x0.take (x6 : Int).toNat), true)) else (none)) else (tremaref04_good.l0 k x0 x1 (wrap64 (x6 + 1))))) else (none)) else (some (x0, false))
def tremaref04_good.f (k : Nat) (l0 : List (S67)) (a1 : Int) : Option ((List (S67)) × Bool) := tremaref04_good.l0 k l0 a1 0
theorem tremaref04_good.mono_l : ∀ k, (∀ y0 y1 y2, LeO (tremaref04_good.l0 k y0 y1 y2) (tremaref04_good.l0 (k + 1) y0 y1 y2))
 | 0 => fun _ _ _ r h => by simp [tremaref04_good.l0] at h
 | k + 1 => by
  have ih0 := tremaref04_good.mono_l k
  ·intro y0 y1 y2; unfold tremaref04_good.l0; repeat' first | (with_reducible exact ih0 _ _ _) | (with_reducible exact LeO.refl _) | (with_reducible exact LeO.none _) | (with_reducible refine LeO.ite ?_ ?_) | (with_reducible refine LeO.bind ?_ (fun _ => ?_)) | exact ih0 _ _ _ | exact LeO.none _ | refine LeO.ite ?_ ?_ | refine LeO.bind ?_ (fun _ => ?_)
theorem tremaref04_good.mono : ∀ a0 a1 k, LeO (tremaref04_good.f k a0 a1) (tremaref04_good.f (k + 1) a0 a1) := by
 intro a0 a1 k; have ih0 := tremaref04_good.mono_l k; unfold tremaref04_good.f; repeat' first | (with_reducible exact ih0 _ _ _) | (with_reducible exact LeO.refl _) | (with_reducible exact LeO.none _) | (with_reducible refine LeO.ite ?_ ?_) | (with_reducible refine LeO.bind ?_ (fun _ => ?_)) | exact ih0 _ _ _ | exact LeO.none _ | refine LeO.ite ?_ ?_ | refine LeO.bind ?_ (fun _ => ?_)
set_option maxHeartbeats 8000000 in
set_option maxRecDepth 100000 in
theorem tremaref04_good.calls (k : Nat) (P0_ : Nat → Prop) (u9000_ : Value) (l0 : List (S67)) (a1 : Int) (r1 : List (S67)) (r2 : Bool) (w0 w : World) (hB : Below w0.heap.size w0 w) (ho0 : Kd.R k67 67 w w0.heap.size P0_ u9000_ l0) (h : tremaref04_good.f k l0 a1 = some (r1, r2)) :
  Calls Tryd.prog 48 #[u9000_, .int .i64 a1] w fun e w' => ∃ v0_ : Value, e = .returned (.tuple #[v0_, .bool r2]) ∧ Kd.R k67 67 w' w0.heap.size (fun k_ => (P0_ k_ ∨ w.heap.size ≤ k_)) v0_ r1 ∧ Below w0.heap.size w0 w' ∧ Kept w w' (fun k_ => P0_ k_) := by
 have hu67 := Tryd.underlying67; have HO0 := Aside0.mk (show Kd.R k67 67 w w0.heap.size (fun k_ => (P0_ k_ ∨ w.heap.size ≤ k_)) u9000_ l0 from Kd.R_mono ho0 (fun k_ hk => (.inl hk))); have HK := Aside0.mk (Kept.refl w (fun k_ => P0_ k_)); have HW0 := Aside0.mk hB.size; have HB := Aside0.mk hB; clear hB; have H : (tremaref04_good.l0 k l0 a1 0) = some (r1, r2) := h; clear h; have H' := Aside0.mk H; clear H; go_enter Tryd.func48, Tryd.ntmps48; go_wp2; go_loopg [6] k (fun kq v6 w' => ∃ (x6_1 : Int), v6 = .int .i64 x6_1 ∧ Aside0 (tremaref04_good.l0 kq l0 a1 x6_1 = some (r1, r2)) ∧ Aside0 (kq ≤ k) ∧ Aside0 (Kd.R k67 67 w' w0.heap.size (fun k_ => (P0_ k_ ∨ w.heap.size ≤ k_)) u9000_ l0) ∧ Aside0 (Kept w w' (fun k_ => P0_ k_)) ∧ Aside0 (Below w0.heap.size w0 w'))
 case atStart => exact ⟨(0), (by first | rfl | (simp; done) | (simp [*]; done)), H', ⟨Nat.le_refl _⟩, ⟨by (with_reducible repeat (first | apply Kd.R_alloc | apply Kd.R_drewN | apply Kd.R_drew)); exact HO0.out⟩, ⟨by repeat (first | (with_reducible first | exact HK.out | apply Kept.alloc | apply Kept.drewN | apply Kept.drew) | exact HK.out)⟩, ⟨by repeat (first | (with_reducible first | exact HB.out | apply below_alloc | apply pw_below_drewN | apply below_drew1) | exact HB.out)⟩⟩
 case round =>
  clear H'; (try clear p2); obtain ⟨x6_1, rfl, HA, HK1, HO_0, HK, HB⟩ := hrel
  cases gk with
  | zero => exact absurd HA.out (by simp [tremaref04_good.l0])
  | succ k1 =>
   have H := HA.out; clear HA; simp only [tremaref04_good.l0] at H; by_cases c3 : x6_1 < (l0.length : Int)
   ·rw [if_pos c3] at H; have c3b0 : decide (x6_1 < (l0.length : Int)) = true := decide_eq_true c3; clear c3; by_cases c4 : 0 ≤ x6_1
    ·rw [if_pos c4] at H; have c4b0 : decide (0 ≤ x6_1) = true := decide_eq_true c4; clear c4; replace H := Option.bind_eq_some_iff.mp H; obtain ⟨t201, A50, H⟩ := H; (try dsimp only at H); have A5 := Aside0.mk A50; clear A50; by_cases c6 : t201 > a1
     ·rw [if_pos c6] at H; have c6b0 : decide (a1 < t201) = true := decide_eq_true c6; clear c6; by_cases c7 : x6_1 ≤ (l0.length : Int)
      ·rw [if_pos c7] at H; have c7b0 := eq_true c7; have c7b1 : decide (x6_1 ≤ (l0.length : Int)) = true := decide_eq_true c7; clear c7; obtain ⟨y202, hy202⟩ : ∃ y_ : List (S67), y_ = (l0.take (x6_1 : Int).toNat) := ⟨_, rfl⟩; (replace H : (some (y202, true)) = some (r1, r2) := by first | (rw [hy202]; with_reducible exact H) | (have H2_ := (Option.bind_some _ _).symm.trans H; rw [hy202]; with_reducible exact H2_) | (have H2_ := (Option.bind_some _ _).symm.trans H; with_reducible exact H2_) | with_reducible exact H | (rw [hy202]; exact H) | exact H); have Ny202 := Aside0.mk hy202; clear hy202; simp only [Option.some.injEq, Prod.mk.injEq] at H; obtain ⟨rfl, rfl⟩ := H; obtain ⟨Ao8, co8, eo8⟩ := Kd.R_slice HO_0.out; subst eo8; have p200 : 0 ≤ (x6_1 : Int) := of_decide_eq_true (by first | (with_reducible assumption) | assumption); have q200 : x6_1 < (l0.length : Int) := of_decide_eq_true (by first | (with_reducible assumption) | assumption); obtain ⟨ad200, e200, hx200_0, hx200_1, hx200_2⟩ := at_T67 (Kd.R_reads' HO_0.out).2.2 x6_1 p200 q200; cases e200; replace p200 := eq_true p200; replace q200 := eq_true q200; go_wp2_with (first | ((with_reducible refine gate_callee (f := 49) rfl ?_); refine goesL_ (some 17) rfl rfl Tryd.func49 (by kernel_rfl) rfl #[.agg #[.string ((rd_T67 l0 x6_1).f0), .int .i64 ((rd_T67 l0 x6_1).f1), .int .i64 ((rd_T67 l0 x6_1).f2)]] rfl (by (try simp only [List.map_toArray, List.map_cons, List.map_nil]); first | done | rfl | (simp only [List.length_drop, List.length_take]; rfl)) ?_; (with_reducible refine (tremaref04_Length.calls ((rd_T67 l0 x6_1).f0) ((rd_T67 l0 x6_1).f1) ((rd_T67 l0 x6_1).f2) t201 _ A5.out).mono ?_); rintro e w9 ⟨rfl, hb⟩; refine ⟨_, rfl, ?_⟩; have n0_ := Aside0.mk (Kd.R_below (by (with_reducible repeat (first | apply Kd.R_alloc | apply Kd.R_drewN | apply Kd.R_drew)); exact HO_0.out) hb); have n1_ := Aside0.mk (Kept.below (S := (fun k_ => P0_ k_)) (by repeat (first | (with_reducible first | exact HK.out | apply Kept.alloc | apply Kept.drewN | apply Kept.drew) | exact HK.out)) hb); have n2_ := Aside0.mk (below_step (by repeat (first | (with_reducible first | exact HB.out | apply below_alloc | apply pw_below_drewN | apply below_drew1) | exact HB.out)) hb); clear HO_0; clear HK; clear HB; have HO_0 := n0_; have HK := n1_; have HB := n2_; clear n0_ n1_ n2_; (try clear hb); (try clear hb2); (try clear hk); (try clear hi); have q10 : (x6_1 : Int) ≤ ((l0.length : Int) : Int) := of_decide_eq_true (by first | (with_reducible assumption) | assumption); obtain ⟨i010, hi010, _, hsz10, _⟩ := info_parts info67; have hcut10 := cut_to (P := Tryd.prog) 29 67 .i64 Tryd.underlying29 hi010 (some ad200) l0.length co8 x6_1 (of_decide_eq_true (by first | (with_reducible assumption) | assumption)) q10 (Kd.R_reads' HO_0.out).2.1; have hr10 := Kd.R_take (m := (x6_1 : Int).toNat) HO_0.out (by omega); have hy10 : y202.length = (x6_1 : Int).toNat := (by rw [Ny202.out, List.length_take]; omega); rw [← Ny202.out] at hr10; rw [← hy10] at hr10 hcut10; clear hy10 hi010 hsz10 HO_0; have HO204 := Aside0.mk hr10; clear hr10; replace q10 := eq_true q10)); go_ret2; exact ⟨_, by first | rfl | (simp [errW_none, errW_some] <;> rfl) | (simp [*, errW_none, errW_some] <;> rfl), by (with_reducible repeat (first | apply Kd.R_alloc | apply Kd.R_drewN | apply Kd.R_drew)); exact HO204.out, by repeat (first | (with_reducible first | exact HB.out | apply below_alloc | apply pw_below_drewN | apply below_drew1) | exact HB.out), by repeat (first | (with_reducible first | exact HK.out | apply Kept.alloc | apply Kept.drewN | apply Kept.drew) | exact HK.out)⟩
      ·rw [if_neg c7] at H; exact absurd H (by simp)
     ·rw [if_neg c6] at H; have c6b0 : decide (a1 < t201) = false := decide_eq_false c6; clear c6; have H' := Aside0.mk H; clear H; obtain ⟨Ao11, co11, eo11⟩ := Kd.R_slice HO_0.out; subst eo11; have p200 : 0 ≤ (x6_1 : Int) := of_decide_eq_true (by first | (with_reducible assumption) | assumption); have q200 : x6_1 < (l0.length : Int) := of_decide_eq_true (by first | (with_reducible assumption) | assumption); obtain ⟨ad200, e200, hx200_0, hx200_1, hx200_2⟩ := at_T67 (Kd.R_reads' HO_0.out).2.2 x6_1 p200 q200; cases e200; replace p200 := eq_true p200; replace q200 := eq_true q200; go_wp2_with (first | ((with_reducible refine gate_callee (f := 49) rfl ?_); refine goesL_ (some 17) rfl rfl Tryd.func49 (by kernel_rfl) rfl #[.agg #[.string ((rd_T67 l0 x6_1).f0), .int .i64 ((rd_T67 l0 x6_1).f1), .int .i64 ((rd_T67 l0 x6_1).f2)]] rfl (by (try simp only [List.map_toArray, List.map_cons, List.map_nil]); first | done | rfl | (simp only [List.length_drop, List.length_take]; rfl)) ?_; (with_reducible refine (tremaref04_Length.calls ((rd_T67 l0 x6_1).f0) ((rd_T67 l0 x6_1).f1) ((rd_T67 l0 x6_1).f2) t201 _ A5.out).mono ?_); rintro e w12 ⟨rfl, hb⟩; refine ⟨_, rfl, ?_⟩; have n0_ := Aside0.mk (Kd.R_below (by (with_reducible repeat (first | apply Kd.R_alloc | apply Kd.R_drewN | apply Kd.R_drew)); exact HO_0.out) hb); have n1_ := Aside0.mk (Kept.below (S := (fun k_ => P0_ k_)) (by repeat (first | (with_reducible first | exact HK.out | apply Kept.alloc | apply Kept.drewN | apply Kept.drew) | exact HK.out)) hb); have n2_ := Aside0.mk (below_step (by repeat (first | (with_reducible first | exact HB.out | apply below_alloc | apply pw_below_drewN | apply below_drew1) | exact HB.out)) hb); clear HO_0; clear HK; clear HB; have HO_0 := n0_; have HK := n1_; have HB := n2_; clear n0_ n1_ n2_; (try clear hb); (try clear hb2); (try clear hk); (try clear hi))); go_roundg k1
      case measure => have := HK1.out; omega
      case rel => exact ⟨(wrap64 (x6_1 + 1)), (by first | rfl | (simp; done) | (simp [*]; done)), H', ⟨by have := HK1.out; omega⟩, ⟨by (with_reducible repeat (first | apply Kd.R_alloc | apply Kd.R_drewN | apply Kd.R_drew)); exact HO_0.out⟩, ⟨by repeat (first | (with_reducible first | exact HK.out | apply Kept.alloc | apply Kept.drewN | apply Kept.drew) | exact HK.out)⟩, ⟨by repeat (first | (with_reducible first | exact HB.out | apply below_alloc | apply pw_below_drewN | apply below_drew1) | exact HB.out)⟩⟩
    ·rw [if_neg c4] at H; exact absurd H (by simp)
   ·rw [if_neg c3] at H; have c3b0 : decide (x6_1 < (l0.length : Int)) = false := decide_eq_false c3; clear c3; simp only [Option.some.injEq, Prod.mk.injEq] at H; obtain ⟨rfl, rfl⟩ := H; obtain ⟨Ao13, co13, eo13⟩ := Kd.R_slice HO_0.out; subst eo13; go_wp2; go_ret2; exact ⟨_, by first | rfl | (simp [errW_none, errW_some] <;> rfl) | (simp [*, errW_none, errW_some] <;> rfl), by (with_reducible repeat (first | apply Kd.R_alloc | apply Kd.R_drewN | apply Kd.R_drew)); exact HO_0.out, by repeat (first | (with_reducible first | exact HB.out | apply below_alloc | apply pw_below_drewN | apply below_drew1) | exact HB.out), by repeat (first | (with_reducible first | exact HK.out | apply Kept.alloc | apply Kept.drewN | apply Kept.drew) | exact HK.out)⟩
end Go.Proofs.YthffpkdadffinaaDoor.X
namespace Go.Proofs.YthffpkdadffinaaDoor.X
open Go.RowKit YthffpkdadffinaaDoorW.PrintWords YthffpkdadffinaaDoorW.PrintLast YthffpkdadffinaaDoorW.PrintMore
attribute [local go_sem] max2_int min2_int max_two min_two max_three min_three max_four min_four   
set_option linter.unusedVariables false
set_option linter.unusedSimpArgs false
def tremaref04_Split.j0 : Nat → List Int → Int → Bool → Option ((List (S67)) × Int)
 | 0, _, _, _ => none
 | k + 1, x0, x1, x13 => if x13 = true then (some (([] : List (S67)), 1)) else ((tremaref04_All.f k x0).bind fun t211 => ((tremaref04_good.f k t211 x1).bind fun bt214 => (if bt214.2 = true then (some (bt214.1, 6)) else (some (bt214.1, 0)))))
def tremaref04_Split.f (k : Nat) (l0 : List Int) (a1 : Int) : Option ((List (S67)) × Int) := if a1 < 1 then (tremaref04_Split.j0 k l0 a1 true) else (tremaref04_Split.j0 k l0 a1 (decide (a1 > 64)))
theorem tremaref04_Split.mono_l : ∀ k, (∀ y0 y1 y2, LeO (tremaref04_Split.j0 k y0 y1 y2) (tremaref04_Split.j0 (k + 1) y0 y1 y2))
 | 0 => fun _ _ _ r h => by simp [tremaref04_Split.j0] at h
 | k + 1 => by
  have ih0 := tremaref04_Split.mono_l k
  ·intro y0 y1 y2; unfold tremaref04_Split.j0; repeat' first | (with_reducible exact ih0 _ _ _) | (with_reducible exact tremaref04_All.mono _ _) | (with_reducible exact tremaref04_good.mono _ _ _) | (with_reducible exact LeO.refl _) | (with_reducible exact LeO.none _) | (with_reducible refine LeO.ite ?_ ?_) | (with_reducible refine LeO.bind ?_ (fun _ => ?_)) | exact ih0 _ _ _ | exact tremaref04_All.mono _ _ | exact tremaref04_good.mono _ _ _ | exact LeO.none _ | refine LeO.ite ?_ ?_ | refine LeO.bind ?_ (fun _ => ?_)
theorem tremaref04_Split.mono : ∀ a0 a1 k, LeO (tremaref04_Split.f k a0 a1) (tremaref04_Split.f (k + 1) a0 a1) := by
 intro a0 a1 k; have ih0 := tremaref04_Split.mono_l k; unfold tremaref04_Split.f; repeat' first | (with_reducible exact ih0 _ _ _) | (with_reducible exact tremaref04_All.mono _ _) | (with_reducible exact tremaref04_good.mono _ _ _) | (with_reducible exact LeO.refl _) | (with_reducible exact LeO.none _) | (with_reducible refine LeO.ite ?_ ?_) | (with_reducible refine LeO.bind ?_ (fun _ => ?_)) | exact ih0 _ _ _ | exact tremaref04_All.mono _ _ | exact tremaref04_good.mono _ _ _ | exact LeO.none _ | refine LeO.ite ?_ ?_ | refine LeO.bind ?_ (fun _ => ?_)
set_option maxHeartbeats 8000000 in
set_option maxRecDepth 100000 in
theorem tremaref04_Split.calls (k : Nat) (A0 : Option Addr) (c0 : Nat) (l0 : List Int) (a1 : Int) (r1 : List (S67)) (r2 : Int) (w : World) (hr0 : Kd.C (Kd.int .u8) w A0 l0.length l0) (hc0 : l0.length ≤ c0) (h : tremaref04_Split.f k l0 a1 = some (r1, r2)) :
  Calls Tryd.prog 21 #[.slice A0 l0.length c0, .int .i64 a1] w fun e w' => ∃ v0_ : Value, e = .returned (.tuple #[v0_, .int .i64 r2]) ∧ Kd.R k67 67 w' w.heap.size (fun _ => True) v0_ r1 ∧ Below w.heap.size w w' := by
 have HR0 := Aside0.mk hr0; have HC0 := Aside0.mk hc0; clear hr0 hc0; have HB := Aside0.mk (Below.refl w.heap.size w); have H : (if a1 < 1 then (tremaref04_Split.j0 k l0 a1 true) else (tremaref04_Split.j0 k l0 a1 (decide (a1 > 64)))) = some (r1, r2) := h; clear h; have HC3 := Aside0.mk H; clear H; go_enter Tryd.func21, Tryd.ntmps21; go_upto_region 1 with (fail); go_cut [13] (fun v13 wc => ∃ (kq : Nat) (x13_2 : Bool), v13 = .bool x13_2 ∧ Aside0 (tremaref04_Split.j0 kq l0 a1 x13_2 = some (r1, r2)) ∧ Aside0 (kq ≤ k) ∧ Aside0 (Below w.heap.size w wc))
 case first =>
  have H := HC3.out; clear HC3; by_cases c4 : a1 < 1
  ·rw [if_pos c4] at H; have c4b0 : decide (a1 < 1) = true := decide_eq_true c4; clear c4
   (first | rw [c4b0] | (simp only [i64_w, i32_w]; rw [c4b0]) | skip)
   have H' := Aside0.mk H; clear H; go_wp2; go_meet
   case rel => exact ⟨_, (true), (by first | rfl | (simp; done) | (simp [*]; done)), H', ⟨by first | omega | exact Nat.le_refl _⟩, ⟨by repeat (first | (with_reducible first | exact HB.out | apply below_alloc | apply pw_below_drewN | apply below_drew1) | exact HB.out)⟩⟩
  ·rw [if_neg c4] at H; have c4b0 : decide (a1 < 1) = false := decide_eq_false c4; clear c4
   (first | rw [c4b0] | (simp only [i64_w, i32_w]; rw [c4b0]) | skip)
   have H' := Aside0.mk H; clear H; go_wp2; go_meet
   case rel => exact ⟨_, (decide (a1 > 64)), (by first | rfl | (simp; done) | (simp [*]; done)), H', ⟨by first | omega | exact Nat.le_refl _⟩, ⟨by repeat (first | (with_reducible first | exact HB.out | apply below_alloc | apply pw_below_drewN | apply below_drew1) | exact HB.out)⟩⟩
 case rest =>
  clear HC3; (try clear c2); (try clear p2); (try clear c4); (try clear c4b0); obtain ⟨kq, x13_2, rfl, HA, HJ2, HB⟩ := hcut
  cases kq with
  | zero => exact absurd HA.out (by simp [tremaref04_Split.j0])
  | succ kj2 =>
   have H := HA.out; clear HA; simp only [tremaref04_Split.j0] at H; by_cases c5 : x13_2 = true
   ·subst c5; rw [if_pos rfl] at H; simp only [Option.some.injEq, Prod.mk.injEq] at H; obtain ⟨rfl, rfl⟩ := H; go_wp2; go_ret2; exact ⟨_, by first | rfl | (simp [errW_none, errW_some] <;> rfl) | (simp [*, errW_none, errW_some] <;> rfl), by first | exact Kd.R_nil _ _ _ _ _ | exact Kd.N_nil _ _ _ _ _ | exact Kd.V_nil _ _ _ _ _ | exact Kd.Q_nil _ _ _ _ _ | exact Kd.S_nil _ _ _ _ _, by repeat (first | (with_reducible first | exact HB.out | apply below_alloc | apply pw_below_drewN | apply below_drew1) | exact HB.out)⟩
   ·replace c5 := Bool.eq_false_iff.mpr c5; subst c5; rw [if_neg (show ¬ (false = true) by decide)] at H; replace H := Option.bind_eq_some_iff.mp H; obtain ⟨t211, A60, H⟩ := H; (try dsimp only at H); have A6 := Aside0.mk A60; clear A60; replace H := Option.bind_eq_some_iff.mp H; obtain ⟨⟨t214, t217⟩, A70, H⟩ := H; (try dsimp only at H); have A7 := Aside0.mk A70; clear A70; by_cases c8 : t217 = true
    ·subst c8; rw [if_pos rfl] at H; simp only [Option.some.injEq, Prod.mk.injEq] at H; obtain ⟨rfl, rfl⟩ := H; go_wp2_with (first | ((with_reducible refine gate_callee (f := 52) rfl ?_); refine goesL_ (some 16) rfl rfl Tryd.func52 (by kernel_rfl) rfl #[.slice A0 l0.length c0] rfl (by (try simp only [List.map_toArray, List.map_cons, List.map_nil]); first | done | rfl | (simp only [List.length_drop, List.length_take]; rfl)) ?_; (with_reducible refine (tremaref04_All.calls kj2 _ _ l0 t211 _ ?side1 ?side2 A6.out).mono ?_); (case side1 => repeat (first | exact (Kd.C_below HR0.out HB.out) | (with_reducible refine Kd.C_alloc ?_ _) | (with_reducible refine Kd.C_drewN ?_ _) | (with_reducible refine Kd.C_drew ?_))); (case side2 => exact HC0.out); rintro e w9 ⟨v212, rfl, ho0, hb⟩; refine ⟨_, rfl, ?_⟩; have n0_ := Aside0.mk (Kd.R_lower ho0 (below_size (by repeat (first | (with_reducible first | exact HB.out | apply below_alloc | apply pw_below_drewN | apply below_drew1) | exact HB.out)))); have n1_ := Aside0.mk (below_step (by repeat (first | (with_reducible first | exact HB.out | apply below_alloc | apply pw_below_drewN | apply below_drew1) | exact HB.out)) hb); clear HB; have HO213 := n0_; have HB := n1_; clear n0_ n1_; (try clear hb); (try clear hb2); (try clear hk); (try clear hi); (try clear ho0); obtain ⟨Ao10, co10, eo10⟩ := Kd.R_slice HO213.out; subst eo10) | ((with_reducible refine gate_callee (f := 48) rfl ?_); refine goesL_ (some 18) rfl rfl Tryd.func48 (by kernel_rfl) rfl #[.slice Ao10 t211.length co10, .int .i64 a1] rfl (by (try simp only [List.map_toArray, List.map_cons, List.map_nil]); first | done | rfl | (simp only [List.length_drop, List.length_take]; rfl)) ?_; (with_reducible refine (tremaref04_good.calls kj2 (fun k_ => some k_ = (.slice Ao10 t211.length co10 : Value).ownBlock) (.slice Ao10 t211.length co10) t211 a1 t214 true w _ ?side1 ?side2 A7.out).mono ?_); (case side1 => repeat (first | (with_reducible first | exact HB.out | apply below_alloc | apply pw_below_drewN | apply below_drew1) | exact HB.out)); (case side2 => exact Kd.R_tight rfl HO213.out); rintro e w11 ⟨v215, rfl, ho0, hb, hkp⟩; refine ⟨_, rfl, ?_⟩; have n0_ := Aside0.mk (Kd.R_mono (ok' := fun k_ => True) ho0 (fun k_ hk_ => trivial)); have n1_ := Aside0.mk (hb); clear HB; clear HO213; have HO216 := n0_; have HB := n1_; clear n0_ n1_; (try clear hb); (try clear hkp); (try clear ho0))); go_ret2; exact ⟨_, by first | rfl | (simp [errW_none, errW_some] <;> rfl) | (simp [*, errW_none, errW_some] <;> rfl), by (with_reducible repeat (first | apply Kd.R_alloc | apply Kd.R_drewN | apply Kd.R_drew)); exact HO216.out, by repeat (first | (with_reducible first | exact HB.out | apply below_alloc | apply pw_below_drewN | apply below_drew1) | exact HB.out)⟩
    ·replace c8 := Bool.eq_false_iff.mpr c8; subst c8; rw [if_neg (show ¬ (false = true) by decide)] at H; simp only [Option.some.injEq, Prod.mk.injEq] at H; obtain ⟨rfl, rfl⟩ := H; go_wp2_with (first | ((with_reducible refine gate_callee (f := 52) rfl ?_); refine goesL_ (some 16) rfl rfl Tryd.func52 (by kernel_rfl) rfl #[.slice A0 l0.length c0] rfl (by (try simp only [List.map_toArray, List.map_cons, List.map_nil]); first | done | rfl | (simp only [List.length_drop, List.length_take]; rfl)) ?_; (with_reducible refine (tremaref04_All.calls kj2 _ _ l0 t211 _ ?side1 ?side2 A6.out).mono ?_); (case side1 => repeat (first | exact (Kd.C_below HR0.out HB.out) | (with_reducible refine Kd.C_alloc ?_ _) | (with_reducible refine Kd.C_drewN ?_ _) | (with_reducible refine Kd.C_drew ?_))); (case side2 => exact HC0.out); rintro e w12 ⟨v212, rfl, ho0, hb⟩; refine ⟨_, rfl, ?_⟩; have n0_ := Aside0.mk (Kd.R_lower ho0 (below_size (by repeat (first | (with_reducible first | exact HB.out | apply below_alloc | apply pw_below_drewN | apply below_drew1) | exact HB.out)))); have n1_ := Aside0.mk (below_step (by repeat (first | (with_reducible first | exact HB.out | apply below_alloc | apply pw_below_drewN | apply below_drew1) | exact HB.out)) hb); clear HB; have HO213 := n0_; have HB := n1_; clear n0_ n1_; (try clear hb); (try clear hb2); (try clear hk); (try clear hi); (try clear ho0); obtain ⟨Ao13, co13, eo13⟩ := Kd.R_slice HO213.out; subst eo13) | ((with_reducible refine gate_callee (f := 48) rfl ?_); refine goesL_ (some 18) rfl rfl Tryd.func48 (by kernel_rfl) rfl #[.slice Ao13 t211.length co13, .int .i64 a1] rfl (by (try simp only [List.map_toArray, List.map_cons, List.map_nil]); first | done | rfl | (simp only [List.length_drop, List.length_take]; rfl)) ?_; (with_reducible refine (tremaref04_good.calls kj2 (fun k_ => some k_ = (.slice Ao13 t211.length co13 : Value).ownBlock) (.slice Ao13 t211.length co13) t211 a1 t214 false w _ ?side1 ?side2 A7.out).mono ?_); (case side1 => repeat (first | (with_reducible first | exact HB.out | apply below_alloc | apply pw_below_drewN | apply below_drew1) | exact HB.out)); (case side2 => exact Kd.R_tight rfl HO213.out); rintro e w14 ⟨v215, rfl, ho0, hb, hkp⟩; refine ⟨_, rfl, ?_⟩; have n0_ := Aside0.mk (Kd.R_mono (ok' := fun k_ => True) ho0 (fun k_ hk_ => trivial)); have n1_ := Aside0.mk (hb); clear HB; clear HO213; have HO216 := n0_; have HB := n1_; clear n0_ n1_; (try clear hb); (try clear hkp); (try clear ho0))); go_ret2; exact ⟨_, by first | rfl | (simp [errW_none, errW_some] <;> rfl) | (simp [*, errW_none, errW_some] <;> rfl), by (with_reducible repeat (first | apply Kd.R_alloc | apply Kd.R_drewN | apply Kd.R_drew)); exact HO216.out, by repeat (first | (with_reducible first | exact HB.out | apply below_alloc | apply pw_below_drewN | apply below_drew1) | exact HB.out)⟩
end Go.Proofs.YthffpkdadffinaaDoor.X
namespace Go.Proofs.YthffpkdadffinaaDoor.Sgq
set_option linter.unusedVariables false
set_option linter.unusedSimpArgs false
open Go.Proofs.YthffpkdadffinaaDoor.Vd (decU)
open Go.Proofs.YthffpkdadffinaaDoor.Ve (opn)
open Go.Proofs.YthffpkdadffinaaDoor.Ux (Bytes one1 dc rest1 full dec)
open Go.Proofs.YthffpkdadffinaaDoor.En (enc fixr enc_byte enc_len)
open Go.RowKit YthffpkdadffinaaDoorW.PrintWords Ev0 X Oa Ob Vp0 Vr Vu Sga Sgb Sgc Sgd Sgp
theorem rdG {l : List SG} {i : Nat} (h : i < l.length) : rd_T67 l (i : Int) = l[i] := by unfold rd_T67; simp [List.getD_eq_getElem?_getD, List.getElem?_eq_getElem h]
theorem cutEv (ps : List SP) (hf : ∀ p ∈ ps, fine p) (hl : ps.length ≤ 10000000) : Ev (fun k => tremaref04_cut.f k ps) (cutS ps) :=
  Ev.of (tremaref04_cut.mono ps) (show tremaref04_cut.f 0 ps = some (cutS ps) by unfold tremaref04_cut.f; rw [if_pos ⟨hf, hl⟩])
theorem allEv (b : List Int) (hB : Bytes b) (hl : b.length ≤ 10000000) : Ev (fun k => tremaref04_All.f k b) (cutS (full b)) := by
  unfold tremaref04_All.f; have hd := Ux.Ref_dec b hB (by omega) false; refine Ev.bind (Ev.of (tremaref01_Decode.mono b false) hd) ?_; have hfl := Ud.full_len b; refine Ev.bind (cutEv (full b) (full_fine b hB (by omega)) (by omega)) ?_; exact Ev.now _
theorem goodEv (lim : Int) (l : List SG) (hl : l.length ≤ 100000000) (hs : ∀ s ∈ l, s.f0.size ≤ 1000000000) : Ev (fun k => tremaref04_good.f k l lim) (goodS lim l) := by
  unfold tremaref04_good.f
  have key : ∀ q i : Nat, i + q = l.length → (goodS lim l = (l.take i ++ (goodS lim (l.drop i)).1, (goodS lim (l.drop i)).2)) → Ev (fun k => tremaref04_good.l0 k l lim (i : Int)) (goodS lim l) := by
    intro q
    induction q with
    | zero =>
      intro i hi hg; obtain rfl : i = l.length := hi; refine Ev.step (fun k => tremaref04_good.l0.eq_2 ..) ?_; simp only [if_neg (Int.lt_irrefl _)]; rw [List.drop_length, List.take_length] at hg; rw [hg]; simp only [goodS, List.append_nil]; exact Ev.now _
    | succ q ih =>
      intro i hi hg; (have hil : i < l.length := by omega); refine Ev.step (fun k => tremaref04_good.l0.eq_2 ..) ?_; simp only [if_pos (show (i : Int) < (l.length : Int) by omega), if_pos (show (0 : Int) ≤ (i : Int) by omega), rdG hil, tremaref04_Length.f, if_pos (hs l[i] (List.getElem_mem hil)), Option.bind_some, if_pos (show (i : Int) ≤ (l.length : Int) by omega), Int.toNat_natCast, w64 (i := i) (by omega)]; rw [List.drop_eq_getElem_cons hil, goodS] at hg; by_cases hlm : lim < (lenF l[i].f0 : Int)
      · rw [if_pos hlm] at hg; simp only [if_pos (show (lenF l[i].f0 : Int) > lim from hlm)]; rw [hg]; simp only [List.append_nil]; exact Ev.now _
      · rw [if_neg hlm] at hg; simp only [if_neg (show ¬ (lenF l[i].f0 : Int) > lim from hlm)]; refine ih (i + 1) (by omega) ?_; rw [hg, List.take_succ_eq_append_getElem hil, List.append_assoc, List.singleton_append]
  exact key l.length 0 (by omega) (by simp)
theorem txt_size (rs : List Int) (h1 : ∀ x ∈ rs, I32 x) : (txt rs).size ≤ 12 * rs.length := by
  have := nrm_len3 rs h1; have h := (enc_len (nrm rs)).2; (have e1 : (txt rs).size = (enc (nrm rs)).length := by unfold txt; rw [← bytesOf_length, Ot.bytes_str _ (enc_byte _)]); rw [e1]; omega
theorem cutR_size : ∀ (t : List SP) (rs : List Int) (a e : Int), (∀ x ∈ rs, I32 x) → (∀ p ∈ t, fine p) → rs.length + t.length ≤ 80000000 → (∀ s ∈ cutR t rs a e, s.f0.size ≤ 1000000000) ∧ (cutR t rs a e).length ≤ t.length + 1
  | [], rs, a, e, h1, _, h3 => by
    refine ⟨fun s hs => ?_, by simp [cutR]⟩; rw [cutR, List.mem_singleton] at hs; rw [hs]; have h0 := txt_size rs h1; simp only [List.length_nil] at h3; (show (txt rs).size ≤ _); omega
  | p :: t, rs, a, e, h1, h2, h3 => by
    have hp := h2 p (List.mem_cons_self ..); (have ht := fun q hq => h2 q (List.mem_cons_of_mem _ hq)); rw [List.length_cons] at h3; rw [cutR]; split
    · have ih := cutR_size t [p.f0] p.f1 (p.f1 + p.f2) (by intro x hx; rw [List.mem_singleton.1 hx]; exact hp.1) ht (by simp; omega); have h0 := txt_size rs h1; refine ⟨fun s hs => ?_, by simp only [List.length_cons]; omega⟩; rcases List.mem_cons.1 hs with rfl | hs
      · (show (txt rs).size ≤ _); omega
      · exact ih.1 s hs
    · have ih := cutR_size t (rs ++ [p.f0]) a (p.f1 + p.f2) (by intro x hx; rcases List.mem_append.1 hx with h | h; (· exact h1 x h); (· rw [List.mem_singleton.1 h]; exact hp.1)) ht (by rw [List.length_append, List.length_singleton]; omega); exact ⟨ih.1, by simp only [List.length_cons]; omega⟩
theorem cutS_size (ps : List SP) (hf : ∀ p ∈ ps, fine p) (hl : ps.length ≤ 80000000) : (∀ s ∈ cutS ps, s.f0.size ≤ 1000000000) ∧ (cutS ps).length ≤ ps.length := by
  cases ps with
  | nil => exact ⟨by simp [cutS], by simp [cutS]⟩
  | cons p t =>
    have hp := hf p (List.mem_cons_self ..); rw [List.length_cons] at hl ⊢; exact cutR_size t [p.f0] p.f1 (p.f1 + p.f2) (by intro x hx; rw [List.mem_singleton.1 hx]; exact hp.1) (fun q hq => hf q (List.mem_cons_of_mem _ hq)) (by simp; omega)
end Go.Proofs.YthffpkdadffinaaDoor.Sgq
namespace Go.Proofs.YthffpkdadffinaaDoor.X
open Go.RowKit YthffpkdadffinaaDoorW.PrintWords YthffpkdadffinaaDoorW.PrintLast YthffpkdadffinaaDoorW.PrintMore
attribute [local go_sem] max2_int min2_int max_two min_two max_three min_three max_four min_four   
set_option linter.unusedVariables false
set_option linter.unusedSimpArgs false
def slices_Equal_string_string.l0 : Nat → List ByteArray → List ByteArray → Int → Int → Option (Bool)
 | 0, _, _, _, _ => none
 | k + 1, x0, x1, x12, x13 => if x13 < x12 then (if 0 ≤ x13 then (if x13 < (x0.length : Int) then (if x13 < (x1.length : Int) then (if (rdOf ByteArray.empty x0 x13).toList = (rdOf ByteArray.empty x1 x13).toList then (slices_Equal_string_string.l0 k x0 x1 x12 (wrap64 (x13 + 1))) else (some false)) else (none)) else (none)) else (none)) else (some true)
def slices_Equal_string_string.f (k : Nat) (l0 : List ByteArray) (l1 : List ByteArray) : Option (Bool) := if (l0.length : Int) = (l1.length : Int) then (slices_Equal_string_string.l0 k l0 l1 (l0.length : Int) 0) else (some false)
theorem slices_Equal_string_string.mono_l : ∀ k, (∀ y0 y1 y2 y3, LeO (slices_Equal_string_string.l0 k y0 y1 y2 y3) (slices_Equal_string_string.l0 (k + 1) y0 y1 y2 y3))
 | 0 => fun _ _ _ _ r h => by simp [slices_Equal_string_string.l0] at h
 | k + 1 => by
  have ih0 := slices_Equal_string_string.mono_l k
  ·intro y0 y1 y2 y3; unfold slices_Equal_string_string.l0; repeat' first | (with_reducible exact ih0 _ _ _ _) | (with_reducible exact LeO.refl _) | (with_reducible exact LeO.none _) | (with_reducible refine LeO.ite ?_ ?_) | (with_reducible refine LeO.bind ?_ (fun _ => ?_)) | exact ih0 _ _ _ _ | exact LeO.none _ | refine LeO.ite ?_ ?_ | refine LeO.bind ?_ (fun _ => ?_)
theorem slices_Equal_string_string.mono : ∀ a0 a1 k, LeO (slices_Equal_string_string.f k a0 a1) (slices_Equal_string_string.f (k + 1) a0 a1) := by
 intro a0 a1 k; have ih0 := slices_Equal_string_string.mono_l k; unfold slices_Equal_string_string.f; repeat' first | (with_reducible exact ih0 _ _ _ _) | (with_reducible exact LeO.refl _) | (with_reducible exact LeO.none _) | (with_reducible refine LeO.ite ?_ ?_) | (with_reducible refine LeO.bind ?_ (fun _ => ?_)) | exact ih0 _ _ _ _ | exact LeO.none _ | refine LeO.ite ?_ ?_ | refine LeO.bind ?_ (fun _ => ?_)
set_option maxHeartbeats 8000000 in
set_option maxRecDepth 100000 in
theorem slices_Equal_string_string.calls (k : Nat) (A0 : Option Addr) (c0 : Nat) (l0 : List ByteArray) (A1 : Option Addr) (c1 : Nat) (l1 : List ByteArray) (r : Bool) (w : World) (hr0 : Kd.C Kd.string w A0 l0.length l0) (hc0 : l0.length ≤ c0) (hr1 : Kd.C Kd.string w A1 l1.length l1) (hc1 : l1.length ≤ c1) (h : slices_Equal_string_string.f k l0 l1 = some r) :
  Calls Tryd.prog 80 #[.slice A0 l0.length c0, .slice A1 l1.length c1] w fun e w' => e = .returned (.bool r) ∧ Drawn0 w w' := by
 have HR0 := Aside0.mk hr0; have HC0 := Aside0.mk hc0; clear hr0 hc0; have HR1 := Aside0.mk hr1; have HC1 := Aside0.mk hc1; clear hr1 hc1; have H : (if (l0.length : Int) = (l1.length : Int) then (slices_Equal_string_string.l0 k l0 l1 (l0.length : Int) 0) else (some false)) = some r := h; clear h; by_cases c3 : (l0.length : Int) = (l1.length : Int)
 ·rw [if_pos c3] at H; have c3b0 : ((l0.length : Int) == (l1.length : Int)) = true := beq_iff_eq.mpr c3; have c3b1 : ((l0.length : Int) != (l1.length : Int)) = false := bne_eq_false_iff_eq.mpr c3; (have c3b2 : (l0.length == l1.length) = true := by first | simpa using c3 | (simp at c3 ⊢; omega)); clear c3; have H' := Aside0.mk H; clear H; go_enter Tryd.func80, Tryd.ntmps80; go_wp2; (repeat (go_quiet (fail); try go_wp2)); go_loopg [13] k (fun kq v13 w' => ∃ (x13_1 : Int), v13 = .int .i64 x13_1 ∧ Aside0 (slices_Equal_string_string.l0 kq l0 l1 (l0.length : Int) x13_1 = some r) ∧ Aside0 (kq ≤ k) ∧ Drawn0 w w')
  case atStart => exact ⟨(0), (by first | rfl | (simp; done) | (simp [*]; done)), H', ⟨Nat.le_refl _⟩, by repeat (first | exact Drawn0.refl _ | apply Drawn0.step)⟩
  case round =>
   clear H'; (try clear c1); (try clear p2); (try clear c3); (try clear c3b0); (try clear c3b1); (try clear c3b2); obtain ⟨x13_1, rfl, HA, HK1, ⟨m1, rfl⟩⟩ := hrel
   cases gk with
   | zero => exact absurd HA.out (by simp [slices_Equal_string_string.l0])
   | succ k1 =>
    have H := HA.out; clear HA; simp only [slices_Equal_string_string.l0] at H; by_cases c4 : x13_1 < (l0.length : Int)
    ·rw [if_pos c4] at H; have c4b0 : decide (x13_1 < (l0.length : Int)) = true := decide_eq_true c4; clear c4; by_cases c5 : 0 ≤ x13_1
     ·rw [if_pos c5] at H; have c5b0 : decide (0 ≤ x13_1) = true := decide_eq_true c5; clear c5; by_cases c6 : x13_1 < (l0.length : Int)
      ·rw [if_pos c6] at H; have c6b0 : decide (x13_1 < (l0.length : Int)) = true := decide_eq_true c6; clear c6; by_cases c7 : x13_1 < (l1.length : Int)
       ·rw [if_pos c7] at H; have c7b0 : decide (x13_1 < (l1.length : Int)) = true := decide_eq_true c7; clear c7; by_cases c8 : (rdOf ByteArray.empty l0 x13_1).toList = (rdOf ByteArray.empty l1 x13_1).toList
        ·rw [if_pos c8] at H; have c8b0 : ((rdOf ByteArray.empty l0 x13_1).toList == (rdOf ByteArray.empty l1 x13_1).toList) = true := beq_iff_eq.mpr c8; have c8b1 : ((rdOf ByteArray.empty l0 x13_1).toList != (rdOf ByteArray.empty l1 x13_1).toList) = false := bne_eq_false_iff_eq.mpr c8; clear c8; have H' := Aside0.mk H; clear H; have p189 : 0 ≤ (x13_1 : Int) := of_decide_eq_true (by first | (with_reducible assumption) | assumption); have q189 : x13_1 < (l0.length : Int) := of_decide_eq_true (by first | (with_reducible assumption) | assumption); obtain ⟨ad189, e189, hx189_0⟩ := Kd.at_string HR0.out x13_1 p189 q189; cases e189; replace p189 := eq_true p189; replace q189 := eq_true q189; have p190 : 0 ≤ (x13_1 : Int) := of_decide_eq_true (by first | (with_reducible assumption) | assumption); have q190 : x13_1 < (l1.length : Int) := of_decide_eq_true (by first | (with_reducible assumption) | assumption); obtain ⟨ad190, e190, hx190_0⟩ := Kd.at_string HR1.out x13_1 p190 q190; cases e190; replace p190 := eq_true p190; replace q190 := eq_true q190; go_wp2; (repeat (go_quiet (fail); try go_wp2)); go_roundg k1
         case measure => have := HK1.out; omega
         case rel => exact ⟨(wrap64 (x13_1 + 1)), (by first | rfl | (simp; done) | (simp [*]; done)), H', ⟨by have := HK1.out; omega⟩, by repeat (first | exact Drawn0.refl _ | apply Drawn0.step)⟩
        ·rw [if_neg c8] at H; have c8b0 : ((rdOf ByteArray.empty l0 x13_1).toList == (rdOf ByteArray.empty l1 x13_1).toList) = false := beq_eq_false_iff_ne.mpr c8; have c8b1 : ((rdOf ByteArray.empty l0 x13_1).toList != (rdOf ByteArray.empty l1 x13_1).toList) = true := bne_iff_ne.mpr c8; obtain rfl := Option.some.inj H; have p189 : 0 ≤ (x13_1 : Int) := of_decide_eq_true (by first | (with_reducible assumption) | assumption); have q189 : x13_1 < (l0.length : Int) := of_decide_eq_true (by first | (with_reducible assumption) | assumption); obtain ⟨ad189, e189, hx189_0⟩ := Kd.at_string HR0.out x13_1 p189 q189; cases e189; replace p189 := eq_true p189; replace q189 := eq_true q189; have p190 : 0 ≤ (x13_1 : Int) := of_decide_eq_true (by first | (with_reducible assumption) | assumption); have q190 : x13_1 < (l1.length : Int) := of_decide_eq_true (by first | (with_reducible assumption) | assumption); obtain ⟨ad190, e190, hx190_0⟩ := Kd.at_string HR1.out x13_1 p190 q190; cases e190; replace p190 := eq_true p190; replace q190 := eq_true q190; go_wp2; (repeat (go_quiet (fail); try go_wp2)); go_ret; exact ⟨by first | rfl | (simp; done) | (simp [*]; done), by repeat (first | exact Drawn0.refl _ | apply Drawn0.step)⟩
       ·rw [if_neg c7] at H; exact absurd H (by simp)
      ·rw [if_neg c6] at H; exact absurd H (by simp)
     ·rw [if_neg c5] at H; exact absurd H (by simp)
    ·rw [if_neg c4] at H; have c4b0 : decide (x13_1 < (l0.length : Int)) = false := decide_eq_false c4; clear c4; obtain rfl := Option.some.inj H; go_wp2; (repeat (go_quiet (fail); try go_wp2)); go_ret; exact ⟨by first | rfl | (simp; done) | (simp [*]; done), by repeat (first | exact Drawn0.refl _ | apply Drawn0.step)⟩
 ·rw [if_neg c3] at H; have c3b0 : ((l0.length : Int) == (l1.length : Int)) = false := beq_eq_false_iff_ne.mpr c3; have c3b1 : ((l0.length : Int) != (l1.length : Int)) = true := bne_iff_ne.mpr c3; (have c3b2 : (l0.length == l1.length) = false := by first | simpa using c3 | (simp at c3 ⊢; omega)); obtain rfl := Option.some.inj H; go_enter Tryd.func80, Tryd.ntmps80; go_wp2; (repeat (go_quiet (fail); try go_wp2)); go_ret; exact ⟨by first | rfl | (simp; done) | (simp [*]; done), by repeat (first | exact Drawn0.refl _ | apply Drawn0.step)⟩
end Go.Proofs.YthffpkdadffinaaDoor.X
