/-
  Several texts of this claim in one: what its law's proof uses.
-/
import Derived.Test.YtiggjbclbdikmaaDoorMSM15
import Derived.Test.YtiggjbclbdikmaaDoorMSM14
import Derived.Test.YtiggjbclbdikmaaDoorMSM2
import Derived.Test.YtiggjbclbdikmaaDoorMSM13
import Derived.Test.YtiggjbclbdikmaaDoorMSM8
import Derived.Test.YtiggjbclbdikmaaDoorMSM11
import Derived.Test.YtiggjbclbdikmaaDoorMSM12
import Derived.Test.YtiggjbclbdikmaaDoorMSM7
import Derived.Deep.RegionHeld3
import Derived.Deep.DeepCutAuto
import Derived.BigQuiet
import Derived.Test.YtiggjbclbdikmaaDoorRows
import Derived.Deep.Slices
import Derived.ChangeArms
import Derived.ChangeMaps
import Derived.SizedLaws
import Derived.OpenShut
import Derived.ProofKit
namespace Go.Proofs.YtiggjbclbdikmaaDoor.Sgq
set_option linter.unusedVariables false
set_option linter.unusedSimpArgs false
open Go.Proofs.YtiggjbclbdikmaaDoor.Vd (decU)
open Go.Proofs.YtiggjbclbdikmaaDoor.Ve (opn)
open Go.Proofs.YtiggjbclbdikmaaDoor.Ux (Bytes one1 dc rest1 full dec)
open Go.Proofs.YtiggjbclbdikmaaDoor.En (enc fixr enc_byte enc_len)
open Go.RowKit Go.Proofs.YtiggjbclbdikmaaDoorW.PrintWords Go.Proofs.YtiggjbclbdikmaaDoor.Ev0 Go.Proofs.YtiggjbclbdikmaaDoor.X Go.Proofs.YtiggjbclbdikmaaDoor.Oa Go.Proofs.YtiggjbclbdikmaaDoor.Ob Go.Proofs.YtiggjbclbdikmaaDoor.Vp0 Go.Proofs.YtiggjbclbdikmaaDoor.Vr Go.Proofs.YtiggjbclbdikmaaDoor.Vu Go.Proofs.YtiggjbclbdikmaaDoor.Sga Go.Proofs.YtiggjbclbdikmaaDoor.Sgb Go.Proofs.YtiggjbclbdikmaaDoor.Sgc Go.Proofs.YtiggjbclbdikmaaDoor.Sgd Go.Proofs.YtiggjbclbdikmaaDoor.Sgp
theorem rdP {l : List SP} {i : Nat} (h : i < l.length) : rd_T75 l (i : Int) = l[i] := by unfold rd_T75; simp [List.getD_eq_getElem?_getD, List.getElem?_eq_getElem h]
def rn (ps : List SP) (f i : Nat) : List Int := ((ps.take i).drop f).map (·.f0)
theorem rn_succ (ps : List SP) (f i : Nat) (hf : f ≤ i) (h : i < ps.length) : rn ps f (i + 1) = rn ps f i ++ [ps[i].f0] := by
  unfold rn
  rw [List.take_succ_eq_append_getElem h, List.drop_append_of_le_length (by rw [List.length_take]; omega), List.map_append]
  rfl
theorem rn_self (ps : List SP) (f : Nat) : rn ps f f = [] := by unfold rn; rw [List.drop_eq_nil_of_le (by rw [List.length_take]; omega)]; rfl
theorem rn_len (ps : List SP) (f i : Nat) (h : i ≤ ps.length) : (rn ps f i).length = i - f := by unfold rn; simp; omega
theorem rn_mem (ps : List SP) (f i : Nat) (hf : ∀ p ∈ ps, fine p) : ∀ x ∈ rn ps f i, I32 x := by
  intro x hx
  obtain ⟨p, hp, rfl⟩ := List.mem_map.1 hx
  exact (hf p (List.mem_of_mem_take (List.mem_of_mem_drop hp))).1
theorem cut_l1 (ps : List SP) (hf : ∀ p ∈ ps, fine p) (hl : ps.length ≤ 10000000) (out : List SG) (ho : out.length ≤ ps.length) (f i : Nat) (hfi : f < i) (hi : i ≤ ps.length) (R : List SG)
    (next : Ev (fun k => tremaref04_cut.l0 k ps (out ++ [⟨txt (rn ps f i), (ps[f]'(by omega)).f1, (ps[i - 1]'(by omega)).f1 + (ps[i - 1]'(by omega)).f2⟩]) (i : Int) ((i + 1 : Nat) : Int)) R) :
    Ev (fun k => tremaref04_cut.l1 k ps out (f : Int) (i : Int) ([] : List Int) (f : Int)) R := by
  have key : ∀ q j : Nat, j + q = i → f ≤ j → Ev (fun k => tremaref04_cut.l1 k ps out (f : Int) (i : Int) (rn ps f j) (j : Int)) R := by
    intro q
    induction q with
    | zero =>
      intro j hj hfj
      obtain rfl : j = i := hj
      have h32 := rn_mem ps f j hf
      have hrl := rn_len ps f j hi
      have hn := nrm_len3 (rn ps f j) h32
      have hfl : f < ps.length := by omega
      have hil : j - 1 < ps.length := by omega
      have hp := hf (ps[j - 1]'hil) (List.getElem_mem hil)
      obtain ⟨-, g1, g2, g3, g4⟩ := hp
      have hw : wrap64 ((ps[j - 1]'hil).f1 + (ps[j - 1]'hil).f2) = (ps[j - 1]'hil).f1 + (ps[j - 1]'hil).f2 := by unfold wrap64; omega
      have hw1 : wrap64 ((j : Int) - 1) = ((j - 1 : Nat) : Int) := by unfold wrap64; omega
      refine Ev.step (fun k => tremaref04_cut.l1.eq_2 ..) ?_
      simp only [if_neg (Int.lt_irrefl _)]
      refine Ev.bind (refNEv _ h32 (by omega)) ?_
      refine Ev.bind (Ev.of (tremaref01_Encode.mono (nrm (rn ps f j))) (En.ref_pure (nrm (rn ps f j)) (by omega))) ?_
      simp only [if_pos (show (0 : Int) ≤ (f : Int) by omega), if_pos (show (f : Int) < (ps.length : Int) by omega), hw1, if_pos (show (0 : Int) ≤ ((j - 1 : Nat) : Int) by omega), if_pos (show ((j - 1 : Nat) : Int) < (ps.length : Int) by omega), if_pos (show out.length < 4398046511104 by omega), rdP hfl, rdP hil, hw, w64 (i := j) (by omega)]
      exact next
    | succ q ih =>
      intro j hj hfj
      have hjl : j < ps.length := by omega
      have hrl := rn_len ps f j (by omega)
      have ih := ih (j + 1) (by omega) (by omega)
      rw [rn_succ ps f j hfj hjl] at ih
      refine Ev.step (fun k => tremaref04_cut.l1.eq_2 ..) ?_
      simp only [if_pos (show (j : Int) < (i : Int) by omega), if_pos (show (0 : Int) ≤ (j : Int) by omega), if_pos (show (j : Int) < (ps.length : Int) by omega), if_pos (show (rn ps f j).length < 35184372088832 by omega), rdP hjl, w64 (i := j) (by omega)]
      exact ih
  have := key (i - f) f (by omega) (Nat.le_refl _)
  rw [rn_self] at this
  exact this
theorem cut_l0 (ps : List SP) (hf : ∀ p ∈ ps, fine p) (hl : ps.length ≤ 10000000) : ∀ (q i f : Nat) (out : List SG), i + q = ps.length → (hfi : f < i) → (h0 : 0 < ps.length) → out.length ≤ f →
    Ev (fun k => tremaref04_cut.l0 k ps out (f : Int) (i : Int)) (out ++ cutR (ps.drop i) (rn ps f i) (ps.getD f ⟨0, 0, 0⟩).f1 ((ps.getD (i - 1) ⟨0, 0, 0⟩).f1 + (ps.getD (i - 1) ⟨0, 0, 0⟩).f2)) := by
  have gD : ∀ j (h : j < ps.length), ps.getD j ⟨0, 0, 0⟩ = ps[j] := fun j h => by rw [List.getD_eq_getElem?_getD, List.getElem?_eq_getElem h]; rfl
  intro q
  induction q with
  | zero =>
    intro i f out hi hfi h0 ho
    obtain rfl : i = ps.length := hi
    refine Ev.step (fun k => tremaref04_cut.l0.eq_2 ..) ?_
    simp only [if_pos (Int.le_refl _), if_neg (Int.lt_irrefl _)]
    refine Ev.step (fun k => tremaref04_cut.j1.eq_2 ..) ?_
    simp only [Bool.false_eq_true, if_false]
    refine cut_l1 ps hf hl out (by omega) f ps.length hfi (Nat.le_refl _) _ ?_
    refine Ev.step (fun k => tremaref04_cut.l0.eq_2 ..) ?_
    simp only [if_neg (show ¬ ((ps.length + 1 : Nat) : Int) ≤ (ps.length : Int) by omega)]
    rw [List.drop_length, cutR, gD f (by omega), gD (ps.length - 1) (by omega)]
    exact Ev.now _
  | succ q ih =>
    intro i f out hi hfi h0 ho
    have hil : i < ps.length := by omega
    have hp := hf ps[i] (List.getElem_mem hil)
    refine Ev.step (fun k => tremaref04_cut.l0.eq_2 ..) ?_
    simp only [if_pos (show (i : Int) ≤ (ps.length : Int) by omega), if_pos (show (i : Int) < (ps.length : Int) by omega), if_pos (show (0 : Int) ≤ (i : Int) by omega), rdP hil]
    refine Ev.bind (refopn _ hp.1) ?_
    refine Ev.step (fun k => tremaref04_cut.j1.eq_2 ..) ?_
    rw [List.drop_eq_getElem_cons hil, cutR]
    by_cases ho2 : opn ps[i].f0 = true
    · simp only [ho2, Bool.not_true, Bool.false_eq_true, if_false, if_true]
      refine cut_l1 ps hf hl out (by omega) f i hfi (by omega) _ ?_
      have ih := ih (i + 1) i (out ++ [⟨txt (rn ps f i), (ps[f]'(by omega)).f1, (ps[i - 1]'(by omega)).f1 + (ps[i - 1]'(by omega)).f2⟩]) (by omega) (by omega) h0 (by rw [List.length_append, List.length_singleton]; omega)
      rw [rn_succ ps i i (Nat.le_refl _) hil, rn_self, List.nil_append, Nat.add_sub_cancel, gD i hil, List.append_assoc, List.singleton_append] at ih
      rw [gD f (by omega), gD (i - 1) (by omega)]
      exact ih
    · have ho3 : opn ps[i].f0 = false := by simpa using ho2
      simp only [ho3, Bool.not_false, if_true, Bool.false_eq_true, if_false, w64 (i := i) (by omega)]
      have ih := ih (i + 1) f out (by omega) (by omega) h0 ho
      rw [rn_succ ps f i (by omega) hil, Nat.add_sub_cancel, gD i hil] at ih
      exact ih
theorem cutEv (ps : List SP) (hf : ∀ p ∈ ps, fine p) (hl : ps.length ≤ 10000000) : Ev (fun k => tremaref04_cut.f k ps) (cutS ps) := by
  unfold tremaref04_cut.f
  cases ps with
  | nil =>
    refine Ev.step (fun k => tremaref04_cut.l0.eq_2 ..) ?_
    simp only [List.length_nil]
    exact Ev.now _
  | cons p t =>
    have h := cut_l0 (p :: t) hf hl t.length 1 0 [] (by simp; omega) (by omega) (by simp) (by simp)
    rw [rn_succ (p :: t) 0 0 (Nat.le_refl _) (by simp), rn_self] at h
    exact h
theorem allEv (b : List Int) (hB : Bytes b) (hl : b.length ≤ 10000000) : Ev (fun k => tremaref04_All.f k b) (cutS (full b)) := by
  unfold tremaref04_All.f
  have hd := Ux.Ref_dec b hB (by omega) false
  refine Ev.bind (Ev.of (tremaref01_Decode.mono b false) hd) ?_
  have hfl := Ud.full_len b
  refine Ev.bind (cutEv (full b) (full_fine b hB (by omega)) (by omega)) ?_
  exact Ev.now _
theorem txt_size (rs : List Int) (h1 : ∀ x ∈ rs, I32 x) : (txt rs).size ≤ 12 * rs.length := by
  have := nrm_len3 rs h1
  have h := (enc_len (nrm rs)).2
  have e1 : (txt rs).size = (enc (nrm rs)).length := by unfold txt; rw [← bytesOf_length, Ot.bytes_str _ (enc_byte _)]
  rw [e1]
  omega
theorem cutR_size : ∀ (t : List SP) (rs : List Int) (a e : Int), (∀ x ∈ rs, I32 x) → (∀ p ∈ t, fine p) → rs.length + t.length ≤ 80000000 → (∀ s ∈ cutR t rs a e, s.f0.size ≤ 1000000000) ∧ (cutR t rs a e).length ≤ t.length + 1
  | [], rs, a, e, h1, _, h3 => by
    refine ⟨fun s hs => ?_, by simp [cutR]⟩
    rw [cutR, List.mem_singleton] at hs
    rw [hs]
    have h0 := txt_size rs h1
    simp only [List.length_nil] at h3
    show (txt rs).size ≤ _
    omega
  | p :: t, rs, a, e, h1, h2, h3 => by
    have hp := h2 p (List.mem_cons_self ..)
    have ht := fun q hq => h2 q (List.mem_cons_of_mem _ hq)
    rw [List.length_cons] at h3
    rw [cutR]
    split
    · have ih := cutR_size t [p.f0] p.f1 (p.f1 + p.f2) (by intro x hx; rw [List.mem_singleton.1 hx]; exact hp.1) ht (by simp; omega)
      have h0 := txt_size rs h1
      refine ⟨fun s hs => ?_, by simp only [List.length_cons]; omega⟩
      rcases List.mem_cons.1 hs with rfl | hs
      · show (txt rs).size ≤ _
        omega
      · exact ih.1 s hs
    · have ih := cutR_size t (rs ++ [p.f0]) a (p.f1 + p.f2) (by intro x hx; rcases List.mem_append.1 hx with h | h; (· exact h1 x h); (· rw [List.mem_singleton.1 h]; exact hp.1)) ht (by rw [List.length_append, List.length_singleton]; omega)
      exact ⟨ih.1, by simp only [List.length_cons]; omega⟩
theorem cutS_size (ps : List SP) (hf : ∀ p ∈ ps, fine p) (hl : ps.length ≤ 80000000) : (∀ s ∈ cutS ps, s.f0.size ≤ 1000000000) ∧ (cutS ps).length ≤ ps.length := by
  cases ps with
  | nil => exact ⟨by simp [cutS], by simp [cutS]⟩
  | cons p t =>
    have hp := hf p (List.mem_cons_self ..)
    rw [List.length_cons] at hl ⊢
    exact cutR_size t [p.f0] p.f1 (p.f1 + p.f2) (by intro x hx; rw [List.mem_singleton.1 hx]; exact hp.1) (fun q hq => hf q (List.mem_cons_of_mem _ hq)) (by simp; omega)
end Go.Proofs.YtiggjbclbdikmaaDoor.Sgq
namespace Go.Proofs.YtiggjbclbdikmaaDoor.Sgr
set_option linter.unusedVariables false
set_option linter.unusedSimpArgs false
open Go.Proofs.YtiggjbclbdikmaaDoor.Ux (Bytes one1 dc rest1 full dec)
open Go.RowKit Go.Proofs.YtiggjbclbdikmaaDoorW.PrintWords Go.Proofs.YtiggjbclbdikmaaDoor.Ev0 Go.Proofs.YtiggjbclbdikmaaDoor.X Go.Proofs.YtiggjbclbdikmaaDoor.Oa Go.Proofs.YtiggjbclbdikmaaDoor.Ob Go.Proofs.YtiggjbclbdikmaaDoor.Vp0 Go.Proofs.YtiggjbclbdikmaaDoor.Vr Go.Proofs.YtiggjbclbdikmaaDoor.Vu Go.Proofs.YtiggjbclbdikmaaDoor.Sga Go.Proofs.YtiggjbclbdikmaaDoor.Sgb Go.Proofs.YtiggjbclbdikmaaDoor.Sgc Go.Proofs.YtiggjbclbdikmaaDoor.Sgd Go.Proofs.YtiggjbclbdikmaaDoor.Sgp Go.Proofs.YtiggjbclbdikmaaDoor.Sgq
theorem fsize (b : List Int) (hB : Bytes b) (hl : b.length ≤ 10000000) : (∀ s ∈ cutS (full b), s.f0.size ≤ 1000000000) ∧ (cutS (full b)).length ≤ b.length := by
  have hfl := Ud.full_len b
  have h := cutS_size (full b) (full_fine b hB (by omega)) (by omega)
  exact ⟨h.1, by omega⟩
theorem ba_loop (b : ByteArray) : ∀ (q i : Nat) (r : List UInt8), i + q = b.size → ByteArray.toList.loop b i r = r.reverse ++ b.data.toList.drop i := by
  intro q
  induction q with
  | zero =>
    intro i r h
    rw [ByteArray.toList.loop]
    rw [if_neg (by omega), List.drop_eq_nil_of_le (by rw [Array.length_toList]; show b.size ≤ i; omega), List.append_nil]
  | succ q ih =>
    intro i r h
    have hi : i < b.data.toList.length := by rw [Array.length_toList]; show i < b.size; omega
    rw [ByteArray.toList.loop, if_pos (by omega), ih (i + 1) _ (by omega), List.drop_eq_getElem_cons hi]
    have e : b.get! i = b.data.toList[i] := by
      rw [Array.getElem_toList]
      show b.data[i]! = _
      exact getElem!_pos b.data i _
    rw [e]
    simp
theorem ba_data (b : ByteArray) : b.toList = b.data.toList := by
  unfold ByteArray.toList
  rw [ba_loop b b.size 0 [] (by omega)]
  simp
theorem ba_list (a b : ByteArray) : a.toList = b.toList ↔ a = b := by
  rw [ba_data, ba_data]
  constructor
  · intro h
    cases a
    cases b
    exact congrArg ByteArray.mk (Array.toList_inj.1 h)
  · intro h
    rw [h]
theorem rdS {l : List ByteArray} {i : Nat} (h : i < l.length) : rdOf ByteArray.empty l (i : Int) = l[i] := by unfold rdOf; simp [List.getD_eq_getElem?_getD, List.getElem?_eq_getElem h]
theorem sameTEv (l m : List ByteArray) (hl : l.length ≤ 100000000) : Ev (fun k => tremaref01_SameTexts.f k l m) (decide (l = m)) := by
  unfold tremaref01_SameTexts.f
  by_cases hlm : l.length = m.length
  · simp only [if_pos (show (l.length : Int) = (m.length : Int) by omega)]
    have key : ∀ q i : Nat, i + q = l.length → (l.take i = m.take i) → Ev (fun k => tremaref01_SameTexts.l0 k l m (i : Int)) (decide (l = m)) := by
      intro q
      induction q with
      | zero =>
        intro i hi hp
        obtain rfl : i = l.length := hi
        refine Ev.step (fun k => tremaref01_SameTexts.l0.eq_2 ..) ?_
        simp only [if_neg (Int.lt_irrefl _)]
        have e : l = m := by rw [List.take_length, hlm, List.take_length] at hp; exact hp
        rw [decide_eq_true e]
        exact Ev.now _
      | succ q ih =>
        intro i hi hp
        have hil : i < l.length := by omega
        have him : i < m.length := by omega
        refine Ev.step (fun k => tremaref01_SameTexts.l0.eq_2 ..) ?_
        simp only [if_pos (show (i : Int) < (l.length : Int) by omega), if_pos (show (0 : Int) ≤ (i : Int) by omega), if_pos (show (i : Int) < (m.length : Int) by omega), rdS hil, rdS him, ba_list]
        by_cases he : l[i] = m[i]
        · simp only [if_pos he, w64 (i := i) (by omega)]
          refine ih (i + 1) (by omega) ?_
          rw [List.take_succ_eq_append_getElem hil, List.take_succ_eq_append_getElem him, hp, he]
        · simp only [if_neg he]
          rw [decide_eq_false (fun h => he (by subst h; rfl))]
          exact Ev.now _
    exact key l.length 0 (by omega) rfl
  · simp only [if_neg (show ¬ (l.length : Int) = (m.length : Int) by omega)]
    rw [decide_eq_false (fun h => hlm (by rw [h]))]
    exact Ev.now _
theorem bytesB_mk {l : List Int} (h : Bytes l) : bytesB l = true := by
  unfold bytesB
  rw [List.all_eq_true]
  intro x hx
  have := h x hx
  simp
  omega
end Go.Proofs.YtiggjbclbdikmaaDoor.Sgr
namespace Go.Proofs.YtiggjbclbdikmaaDoor.Oqe
set_option linter.unusedVariables false
set_option linter.unusedSimpArgs false
open Go.Proofs.YtiggjbclbdikmaaDoor.Vd (decU)
open Go.RowKit Go.Proofs.YtiggjbclbdikmaaDoorW.PrintWords Go.Proofs.YtiggjbclbdikmaaDoor.Ev0 Go.Proofs.YtiggjbclbdikmaaDoor.X Go.Proofs.YtiggjbclbdikmaaDoor.Va Go.Proofs.YtiggjbclbdikmaaDoor.Ve Go.Proofs.YtiggjbclbdikmaaDoor.Vp0 Go.Proofs.YtiggjbclbdikmaaDoor.Vr Go.Proofs.YtiggjbclbdikmaaDoor.Vu Go.Proofs.YtiggjbclbdikmaaDoor.Na Go.Proofs.YtiggjbclbdikmaaDoor.Oa Go.Proofs.YtiggjbclbdikmaaDoor.Ob
theorem nrm_cut (a b : List Int) (hb : b = [] ∨ ∃ z t, flat b = z :: t ∧ cls z = 0) : nrm (a ++ b) = nrm a ++ nrm b := by
  unfold nrm
  rw [flat_app]
  refine ordL_cut _ _ ?_
  rcases hb with rfl | ⟨z, t, h, hz⟩
  · exact .inl rfl
  · exact .inr ⟨z, t, h, hz⟩
theorem opens_cut (l : List Int) (n : Nat) (hn : n < l.length) (ho : opn l[n] = true) : nrm l = nrm (l.take n) ++ nrm (l.drop n) := by
  have h := nrm_cut (l.take n) (l.drop n) (.inr ?_)
  · rwa [List.take_append_drop] at h
  · rw [List.drop_eq_getElem_cons hn, flat_cons]
    have hne := Ve.decF_ne 4 l[n]
    unfold opn at ho
    have h0 : cls ((decU l[n]).getD 0 0) = 0 := by simpa using (Bool.and_eq_true_iff.1 ho).1
    have e : decU l[n] = Vd.decF 4 l[n] := rfl
    rw [← e] at hne
    match hd : decU l[n], hne with
    | z :: t, _ =>
      rw [hd] at h0
      exact ⟨z, t ++ flat (l.drop (n + 1)), by simp, by simpa using h0⟩
end Go.Proofs.YtiggjbclbdikmaaDoor.Oqe
namespace Go.Proofs.YtiggjbclbdikmaaDoor.Sgt
set_option linter.unusedVariables false
set_option linter.unusedSimpArgs false
open Go.Proofs.YtiggjbclbdikmaaDoor.Ux (Bytes one1 bnd st cont dc dc_cons dc_nil dc_ind dc_rest dc_len rest1 full dec one1_width bnd_len one1_more)
open Go.Proofs.YtiggjbclbdikmaaDoor.Ve (opn)
open Go.Proofs.YtiggjbclbdikmaaDoor.Bk (ful ful_nil ful_cons full_ful)
open Go.Proofs.YtiggjbclbdikmaaDoor.En (enc enc_len enc_byte)
open Go.Proofs.YtiggjbclbdikmaaDoor.Ot (rns)
open Go.RowKit Go.Proofs.YtiggjbclbdikmaaDoorW.PrintWords Go.Proofs.YtiggjbclbdikmaaDoor.Ev0 Go.Proofs.YtiggjbclbdikmaaDoor.X Go.Proofs.YtiggjbclbdikmaaDoor.Oa Go.Proofs.YtiggjbclbdikmaaDoor.Ob Go.Proofs.YtiggjbclbdikmaaDoor.Vp0 Go.Proofs.YtiggjbclbdikmaaDoor.Vr Go.Proofs.YtiggjbclbdikmaaDoor.Vu Go.Proofs.YtiggjbclbdikmaaDoor.Sga Go.Proofs.YtiggjbclbdikmaaDoor.Sgb Go.Proofs.YtiggjbclbdikmaaDoor.Sgc Go.Proofs.YtiggjbclbdikmaaDoor.Sgd Go.Proofs.YtiggjbclbdikmaaDoor.Sgp Go.Proofs.YtiggjbclbdikmaaDoor.Sgq Go.Proofs.YtiggjbclbdikmaaDoor.Sgr
theorem ful_pos : ∀ (N : Nat) (b : List Int) (p q : Int), b.length ≤ N → (ful b p).map (·.f0) = (ful b q).map (·.f0)
  | _, [], p, q, _ => by rw [ful_nil, ful_nil]
  | 0, c :: t, p, q, h => by simp at h
  | N + 1, c :: t, p, q, h => by
    rw [ful_cons, ful_cons, List.map_cons, List.map_cons]
    have := Ux.drop_lt c t
    rw [ful_pos N _ _ (q + (one1 c t).2.1) (by simp only [List.length_cons] at h; omega)]
theorem rns_ful (b : List Int) (p : Int) : (ful b p).map (·.f0) = rns b := ful_pos b.length b p 0 (Nat.le_refl _)
theorem rns_nil : rns [] = [] := by rw [← rns_ful [] 0, ful_nil]; rfl
theorem rns_cons (c : Int) (t : List Int) : rns (c :: t) = (one1 c t).1 :: rns ((c :: t).drop (one1 c t).2.1.toNat) := by
  rw [← rns_ful _ 0, ful_cons, List.map_cons, rns_ful]
theorem cont_take : ∀ (bs : List (Int × Int)) (t : List Int) (r i : Int) (m : Nat), (cont bs t r i).2.1 ≤ i + m → (cont bs (t.take m) r i).1 = (cont bs t r i).1 ∧ (cont bs (t.take m) r i).2.1 = (cont bs t r i).2.1
  | [], t, r, i, m, h => by simp [cont]
  | _ :: _, [], r, i, m, h => by simp [cont]
  | (lo, hi) :: bs, x :: t, r, i, m, h => by
    simp only [cont] at h ⊢
    split at h
    · rename_i hx
      rw [if_pos hx]
      cases m with
      | zero => simp [cont]
      | succ m => simp only [List.take_succ_cons, cont, if_pos hx]; exact ⟨trivial, trivial⟩
    · rename_i hx
      rw [if_neg hx]
      have hw := (Ux.cont_width bs t (r * 64 + x % 64) (i + 1)).1
      cases m with
      | zero => omega
      | succ m =>
        simp only [List.take_succ_cons, cont, if_neg hx]
        exact cont_take bs t _ _ m (by omega)
theorem one1_take (c : Int) (t : List Int) (m : Nat) (h : (one1 c t).2.1 ≤ 1 + m) : (one1 c (t.take m)).1 = (one1 c t).1 ∧ (one1 c (t.take m)).2.1 = (one1 c t).2.1 := by
  unfold one1 at h ⊢
  cases hb : bnd c with
  | none => exact ⟨rfl, rfl⟩
  | some bs =>
    rw [hb] at h
    exact cont_take bs t _ _ m h
def Inv (b : List Int) (a e : Nat) (rs : List Int) : Prop := ∀ m, e ≤ m → rns ((b.take m).drop a) = rs ++ rns ((b.take m).drop e)
theorem inv_self (b : List Int) (a : Nat) : Inv b a a [] := fun m _ => by simp
theorem inv_step {b : List Int} {a e : Nat} {rs : List Int} (h : Inv b a e rs) (c : Int) (t : List Int) (hd : b.drop e = c :: t) : Inv b a (e + (one1 c t).2.1.toNat) (rs ++ [(one1 c t).1]) := by
  intro m hm
  have hw := one1_width c t
  obtain ⟨w, hwe⟩ : ∃ w : Nat, (one1 c t).2.1 = (w : Int) := ⟨(one1 c t).2.1.toNat, by omega⟩
  rw [hwe, Int.toNat_natCast] at hm ⊢
  rw [h m (by omega), List.append_assoc]
  congr 1
  have e1 : (b.take m).drop e = c :: t.take (m - e - 1) := by
    rw [List.drop_take, hd, show m - e = (m - e - 1) + 1 by omega, List.take_succ_cons]
    rfl
  have h1 := one1_take c t (m - e - 1) (by omega)
  rw [e1, rns_cons, h1.1, h1.2, hwe, Int.toNat_natCast, ← e1, List.drop_drop]
  rfl
def Fills (b : List Int) : Nat → List SG → Prop
  | a, [] => a = b.length
  | a, s :: l => s.f1 = a ∧ ∃ e : Nat, s.f2 = e ∧ a < e ∧ e ≤ b.length ∧ s.f0 = txt (rns ((b.take e).drop a)) ∧ Fills b e l
theorem rns_inv {b : List Int} {a e : Nat} {rs : List Int} (h : Inv b a e rs) : rns ((b.take e).drop a) = rs := by
  rw [h e (Nat.le_refl _), List.drop_eq_nil_of_le (by rw [List.length_take]; omega), rns_nil, List.append_nil]
theorem fills_cut (b : List Int) : ∀ (t : List SP) (rs : List Int) (a e : Nat), a < e → e ≤ b.length → Inv b a e rs → ful (b.drop e) (e : Int) = t → Fills b a (cutR t rs a e)
  | [], rs, a, e, hae, hel, hi, ht => by
    have he : e = b.length := by
      cases hd : b.drop e with
      | nil => have := List.drop_eq_nil_iff.1 hd; omega
      | cons c t => rw [hd, ful_cons] at ht; cases ht
    rw [cutR]
    exact ⟨rfl, e, rfl, hae, hel, by rw [rns_inv hi], he⟩
  | p :: t, rs, a, e, hae, hel, hi, ht => by
    cases hd : b.drop e with
    | nil => rw [hd, ful_nil] at ht; cases ht
    | cons c u =>
      rw [hd, ful_cons] at ht
      have hw := one1_width c u
      have hul : (b.drop e).length = 1 + u.length := by rw [hd, List.length_cons]; omega
      rw [List.length_drop] at hul
      have hst := inv_step hi c u hd
      have hst0 := inv_step (inv_self b e) c u hd
      obtain ⟨w, hwe⟩ : ∃ w : Nat, (one1 c u).2.1 = (w : Int) := ⟨(one1 c u).2.1.toNat, by omega⟩
      rw [hwe, Int.toNat_natCast] at hst hst0
      have ht1 := (List.cons.inj ht).1
      have ht2 := (List.cons.inj ht).2
      rw [hwe, Int.toNat_natCast, ← hd, List.drop_drop] at ht2
      have p0 : p.f0 = (one1 c u).1 := by rw [← ht1]
      have p1 : p.f1 = (e : Int) := by rw [← ht1]
      have p2 : p.f2 = (w : Int) := by rw [← ht1, hwe]
      have e2 : p.f1 + p.f2 = ((e + w : Nat) : Int) := by rw [p1, p2]; push_cast; rfl
      rw [cutR, e2, p1]
      rw [← p0] at hst hst0
      have ih := fun rs a hae hi => fills_cut b t rs a (e + w) hae (by omega) hi (by rw [← ht2]; push_cast; rfl)
      split
      · exact ⟨rfl, e, rfl, hae, hel, by rw [rns_inv hi], ih [p.f0] e (by omega) hst0⟩
      · exact ih (rs ++ [p.f0]) a (by omega) hst
theorem fills_all (b : List Int) : Fills b 0 (cutS (full b)) := by
  cases b with
  | nil => rw [full_ful, ful_nil]; rfl
  | cons c t =>
    have hw := one1_width c t
    rw [full_ful, ful_cons, cutS]
    obtain ⟨w, hwe⟩ : ∃ w : Nat, (one1 c t).2.1 = (w : Int) := ⟨(one1 c t).2.1.toNat, by omega⟩
    have hst := inv_step (inv_self (c :: t) 0) c t (by simp)
    rw [hwe, Int.toNat_natCast] at hst
    simp only [hwe, Int.toNat_natCast, List.nil_append, Nat.zero_add, Int.zero_add] at hst ⊢
    exact fills_cut (c :: t) _ [(one1 c t).1] 0 w (by omega) (by simp only [List.length_cons]; omega) hst rfl
def cutT : List Int → List Int → List ByteArray
  | [], rs => [txt rs]
  | x :: t, rs => if opn x = true then txt rs :: cutT t [x] else cutT t (rs ++ [x])
def cutTS : List Int → List ByteArray
  | [] => []
  | x :: t => cutT t [x]
theorem cutR_txt : ∀ (t : List SP) (rs : List Int) (a e : Int), (cutR t rs a e).map (·.f0) = cutT (t.map (·.f0)) rs
  | [], rs, a, e => rfl
  | p :: t, rs, a, e => by
    rw [cutR, List.map_cons, cutT]
    split
    · rw [List.map_cons, cutR_txt t]
    · rw [cutR_txt t]
theorem texts_rns (b : List Int) (hB : Bytes b) (hl : b.length ≤ 100000000) : textsF b = cutTS (rns b) := by
  rw [texts_cut b hB hl]
  unfold rns cutS
  split
  · rename_i h; rw [h]; rfl
  · rename_i p t h
    rw [h, cutR_txt]
    rfl
theorem cutT_app : ∀ (t u : List Int) (rs : List Int) (x : Int), opn x = true → cutT (t ++ x :: u) rs = cutT t rs ++ cutT u [x]
  | [], u, rs, x, h => by rw [List.nil_append]; show (if opn x = true then txt rs :: cutT u [x] else cutT u (rs ++ [x])) = _; rw [if_pos h]; rfl
  | y :: t, u, rs, x, h => by
    rw [List.cons_append, cutT, cutT]
    split
    · rw [cutT_app t u _ x h]; rfl
    · rw [cutT_app t u _ x h]
theorem cutTS_app (r s : List Int) (h : ∀ x t, s = x :: t → opn x = true) : cutTS (r ++ s) = cutTS r ++ cutTS s := by
  cases s with
  | nil => simp [cutTS]
  | cons x u =>
    cases r with
    | nil => rfl
    | cons y t => exact cutT_app t u [y] x (h x u rfl)
end Go.Proofs.YtiggjbclbdikmaaDoor.Sgt
namespace Go.Proofs.YtiggjbclbdikmaaDoor.Sgu
set_option linter.unusedVariables false
set_option linter.unusedSimpArgs false
open Go.Proofs.YtiggjbclbdikmaaDoor.Ux (Bytes)
open Go.Proofs.YtiggjbclbdikmaaDoor.Ve (opn)
open Go.Proofs.YtiggjbclbdikmaaDoor.Ot (rns)
open Go.RowKit Go.Proofs.YtiggjbclbdikmaaDoorW.PrintWords Go.Proofs.YtiggjbclbdikmaaDoor.Ev0 Go.Proofs.YtiggjbclbdikmaaDoor.X Go.Proofs.YtiggjbclbdikmaaDoor.Oa Go.Proofs.YtiggjbclbdikmaaDoor.Ob Go.Proofs.YtiggjbclbdikmaaDoor.Vp0 Go.Proofs.YtiggjbclbdikmaaDoor.Vr Go.Proofs.YtiggjbclbdikmaaDoor.Vu Go.Proofs.YtiggjbclbdikmaaDoor.Sgd Go.Proofs.YtiggjbclbdikmaaDoor.Sgt
theorem cutT_len : ∀ (t rs : List Int), (cutT t rs).length ≤ t.length + 1
  | [], rs => by simp [cutT]
  | x :: t, rs => by
    rw [cutT]
    have h1 := cutT_len t [x]
    have h2 := cutT_len t (rs ++ [x])
    split <;> simp only [List.length_cons] <;> omega
theorem cutTS_len (r : List Int) : (cutTS r).length ≤ r.length := by
  cases r with
  | nil => simp [cutTS]
  | cons x t => exact cutT_len t [x]
theorem rns_len (b : List Int) : (rns b).length ≤ b.length := by unfold rns; rw [List.length_map]; exact Ud.full_len b
theorem textsE (b : List Int) (hB : Bytes b) (hl : b.length ≤ 13000000) : seg_Texts.f b = some (cutTS (rns b)) := by
  unfold seg_Texts.f
  rw [if_pos ⟨Sgr.bytesB_mk hB, hl⟩, texts_rns b hB (by omega)]
end Go.Proofs.YtiggjbclbdikmaaDoor.Sgu
namespace Go.Proofs.YtiggjbclbdikmaaDoor.Sgv
set_option linter.unusedVariables false
set_option linter.unusedSimpArgs false
open Go.Proofs.YtiggjbclbdikmaaDoor.Ux (Bytes full)
open Go.Proofs.YtiggjbclbdikmaaDoor.Ve (opn)
open Go.Proofs.YtiggjbclbdikmaaDoor.Ot (rns)
open Go.Proofs.YtiggjbclbdikmaaDoor.En (enc enc_len enc_byte enc_append)
open Go.RowKit Go.Proofs.YtiggjbclbdikmaaDoorW.PrintWords Go.Proofs.YtiggjbclbdikmaaDoor.Ev0 Go.Proofs.YtiggjbclbdikmaaDoor.X Go.Proofs.YtiggjbclbdikmaaDoor.Oa Go.Proofs.YtiggjbclbdikmaaDoor.Ob Go.Proofs.YtiggjbclbdikmaaDoor.Vp0 Go.Proofs.YtiggjbclbdikmaaDoor.Vr Go.Proofs.YtiggjbclbdikmaaDoor.Vu Go.Proofs.YtiggjbclbdikmaaDoor.Sga Go.Proofs.YtiggjbclbdikmaaDoor.Sgb Go.Proofs.YtiggjbclbdikmaaDoor.Sgd Go.Proofs.YtiggjbclbdikmaaDoor.Sgp Go.Proofs.YtiggjbclbdikmaaDoor.Sgq Go.Proofs.YtiggjbclbdikmaaDoor.Sgt Go.Proofs.YtiggjbclbdikmaaDoor.Sgu
def catB : List ByteArray → ByteArray
  | [] => ⟨#[]⟩
  | x :: t => x ++ catB t
theorem ba_ext {a b : ByteArray} (h : a.data.toList = b.data.toList) : a = b := by
  cases a
  cases b
  exact congrArg ByteArray.mk (Array.toList_inj.1 h)
theorem ba_app (a b : ByteArray) : (a ++ b).data.toList = a.data.toList ++ b.data.toList := by
  rw [ByteArray.data_append, Array.toList_append]
theorem str_app (a b : List Int) : strOfNums (a ++ b) = strOfNums a ++ strOfNums b := by
  refine ba_ext ?_
  rw [ba_app, strOfNums_data, strOfNums_data, strOfNums_data, List.map_append]
theorem txt_app (a b : List Int) (x : Int) (t : List Int) (hb : b = x :: t) (ho : opn x = true) : txt (a ++ b) = txt a ++ txt b := by
  have h := Oqe.opens_cut (a ++ b) a.length (by rw [hb, List.length_append, List.length_cons]; omega) (by rw [List.getElem_append_right (Nat.le_refl _)]; simp [hb, ho])
  rw [List.take_left, List.drop_left] at h
  unfold txt
  rw [h, enc_append, str_app]
theorem cutT_cat : ∀ (t rs : List Int), catB (cutT t rs) = txt (rs ++ t)
  | [], rs => by
    rw [List.append_nil]
    refine ba_ext ?_
    show (txt rs ++ (⟨#[]⟩ : ByteArray)).data.toList = _
    rw [ba_app]
    simp
  | x :: t, rs => by
    rw [cutT]
    split
    · rename_i h
      show txt rs ++ catB (cutT t [x]) = _
      rw [cutT_cat t [x], txt_app rs (x :: t) x t rfl h]
      rfl
    · rw [cutT_cat t (rs ++ [x]), List.append_assoc]
      rfl
theorem cutTS_cat (r : List Int) : catB (cutTS r) = txt r := by
  cases r with
  | nil => rfl
  | cons x t => exact cutT_cat t [x]
theorem textEv (b : List Int) (hB : Bytes b) (hl : b.length ≤ 50000000) : Ev (fun k => tremaref03_Text.f k b) (txt (rns b)) := by
  have h1 : ∀ x ∈ rns b, I32 x := Ot.runes32 b hB
  have hr := rns_len b
  have n1 := nrm_len3 (rns b) h1
  unfold tremaref03_Text.f
  refine Ev.bind (Ot.runesEv b hB (by omega)) ?_
  refine Ev.bind (refNEv _ h1 (by omega)) ?_
  refine Ev.bind (Ev.of (tremaref01_Encode.mono (nrm (rns b))) (En.ref_pure (nrm (rns b)) (by omega))) ?_
  exact Ev.now _
end Go.Proofs.YtiggjbclbdikmaaDoor.Sgv
namespace Go.Proofs.YtiggjbclbdikmaaDoor.Bkg
set_option linter.unusedVariables false
set_option linter.unusedSimpArgs false
open Go.RowKit Go.Proofs.YtiggjbclbdikmaaDoorW.PrintWords Go.Proofs.YtiggjbclbdikmaaDoor.Hp Go.Proofs.YtiggjbclbdikmaaDoor.Ux Go.Proofs.YtiggjbclbdikmaaDoor.En Go.Proofs.YtiggjbclbdikmaaDoor.Rt Go.Proofs.YtiggjbclbdikmaaDoor.X
theorem vld_bad : vld 65533 = true := by decide
theorem one1_good (c : Int) (t : List Int) (hc : 0 ≤ c ∧ c ≤ 255) (hB : Bytes t) : vld (one1 c t).1 = true ∧ ((one1 c t).1 ≠ 65533 → encv (one1 c t).1 = (c :: t).take (one1 c t).2.1.toNat) := by
  unfold one1 bnd st
  by_cases h1 : c < 128
  · rw [if_pos h1, if_pos h1]
    simp only [cont]
    refine ⟨by simp only [vld, decide_eq_true_eq]; omega, fun _ => ?_⟩
    unfold encv
    rw [if_pos h1]; rfl
  · rw [if_neg h1, if_neg h1]
    by_cases h2 : c < 194 ∨ 244 < c
    · rw [if_pos h2]
      exact ⟨vld_bad, fun h => absurd rfl h⟩
    · rw [if_neg h2]
      by_cases h3 : c < 224
      · rw [if_pos h3, if_pos h3]
        cases t with
        | nil => exact ⟨vld_bad, fun h => absurd rfl h⟩
        | cons x t =>
          simp only [cont]
          by_cases hx : x < 128 ∨ 191 < x
          · rw [if_pos hx]; exact ⟨vld_bad, fun h => absurd rfl h⟩
          · rw [if_neg hx]
            simp only
            refine ⟨by simp only [vld, decide_eq_true_eq]; omega, fun _ => ?_⟩
            unfold encv
            rw [if_neg (by omega), if_pos (by omega)]
            show _ = [c, x]
            congr 1
            · omega
            · congr 1; omega
      · rw [if_neg h3, if_neg h3]
        by_cases h4 : c < 240
        · rw [if_pos h4, if_pos h4]
          cases t with
          | nil => exact ⟨vld_bad, fun h => absurd rfl h⟩
          | cons x t =>
            simp only [cont]
            by_cases hx : x < (if c = 224 then 160 else 128) ∨ (if c = 237 then 159 else 191) < x
            · rw [if_pos hx]; exact ⟨vld_bad, fun h => absurd rfl h⟩
            · rw [if_neg hx]
              cases t with
              | nil => exact ⟨vld_bad, fun h => absurd rfl h⟩
              | cons y t =>
                simp only [cont]
                by_cases hy : y < 128 ∨ 191 < y
                · rw [if_pos hy]; exact ⟨vld_bad, fun h => absurd rfl h⟩
                · rw [if_neg hy]
                  simp only
                  have hx' : (c = 224 → 160 ≤ x) ∧ (c = 237 → x ≤ 159) ∧ 128 ≤ x ∧ x ≤ 191 := by
                    refine ⟨fun h => ?_, fun h => ?_, ?_, ?_⟩
                    · rw [if_pos h] at hx; omega
                    · rw [if_pos h] at hx; omega
                    · split at hx <;> omega
                    · split at hx <;> split at hx <;> omega
                  clear hx
                  refine ⟨by simp only [vld, decide_eq_true_eq]; omega, fun _ => ?_⟩
                  unfold encv
                  rw [if_neg (by omega), if_neg (by omega), if_pos (by omega)]
                  show _ = [c, x, y]
                  congr 1
                  · omega
                  · congr 1
                    · omega
                    · congr 1; omega
        · rw [if_neg h4, if_neg h4]
          cases t with
          | nil => exact ⟨vld_bad, fun h => absurd rfl h⟩
          | cons x t =>
            simp only [cont]
            by_cases hx : x < (if c = 240 then 144 else 128) ∨ (if c = 244 then 143 else 191) < x
            · rw [if_pos hx]; exact ⟨vld_bad, fun h => absurd rfl h⟩
            · rw [if_neg hx]
              cases t with
              | nil => exact ⟨vld_bad, fun h => absurd rfl h⟩
              | cons y t =>
                simp only [cont]
                by_cases hy : y < 128 ∨ 191 < y
                · rw [if_pos hy]; exact ⟨vld_bad, fun h => absurd rfl h⟩
                · rw [if_neg hy]
                  cases t with
                  | nil => exact ⟨vld_bad, fun h => absurd rfl h⟩
                  | cons z t =>
                    simp only [cont]
                    by_cases hz : z < 128 ∨ 191 < z
                    · rw [if_pos hz]; exact ⟨vld_bad, fun h => absurd rfl h⟩
                    · rw [if_neg hz]
                      simp only
                      have hx' : (c = 240 → 144 ≤ x) ∧ (c = 244 → x ≤ 143) ∧ 128 ≤ x ∧ x ≤ 191 := by
                        refine ⟨fun h => ?_, fun h => ?_, ?_, ?_⟩
                        · rw [if_pos h] at hx; omega
                        · rw [if_pos h] at hx; omega
                        · split at hx <;> omega
                        · split at hx <;> split at hx <;> omega
                      clear hx
                      refine ⟨by simp only [vld, decide_eq_true_eq]; omega, fun _ => ?_⟩
                      unfold encv
                      rw [if_neg (by omega), if_neg (by omega), if_neg (by omega)]
                      show _ = [c, x, y, z]
                      congr 1
                      · omega
                      · congr 1
                        · omega
                        · congr 1
                          · omega
                          · congr 1; omega
end Go.Proofs.YtiggjbclbdikmaaDoor.Bkg
namespace Go.Proofs.YtiggjbclbdikmaaDoor.Sgw
set_option linter.unusedVariables false
set_option linter.unusedSimpArgs false
open Go.Proofs.YtiggjbclbdikmaaDoor.Ux (Bytes full one1)
open Go.Proofs.YtiggjbclbdikmaaDoor.Ve (opn)
open Go.Proofs.YtiggjbclbdikmaaDoor.Vd (decU keys cases3)
open Go.Proofs.YtiggjbclbdikmaaDoor.Na (ordL ordL_mem ordL_starter)
open Go.Proofs.YtiggjbclbdikmaaDoor.Ot (rns)
open Go.Proofs.YtiggjbclbdikmaaDoor.En (enc enc_len enc_byte enc_append vld fixr)
open Go.RowKit Go.Proofs.YtiggjbclbdikmaaDoorW.PrintWords Go.Proofs.YtiggjbclbdikmaaDoor.Ev0 Go.Proofs.YtiggjbclbdikmaaDoor.X Go.Proofs.YtiggjbclbdikmaaDoor.Va Go.Proofs.YtiggjbclbdikmaaDoor.Oa Go.Proofs.YtiggjbclbdikmaaDoor.Ob Go.Proofs.YtiggjbclbdikmaaDoor.Vp0 Go.Proofs.YtiggjbclbdikmaaDoor.Vr Go.Proofs.YtiggjbclbdikmaaDoor.Vu Go.Proofs.YtiggjbclbdikmaaDoor.Sga Go.Proofs.YtiggjbclbdikmaaDoor.Sgb Go.Proofs.YtiggjbclbdikmaaDoor.Sgd Go.Proofs.YtiggjbclbdikmaaDoor.Sgp Go.Proofs.YtiggjbclbdikmaaDoor.Sgq Go.Proofs.YtiggjbclbdikmaaDoor.Sgt Go.Proofs.YtiggjbclbdikmaaDoor.Sgu Go.Proofs.YtiggjbclbdikmaaDoor.Sgv
def Shut (l : List Int) : Prop := ∀ x ∈ l, opn x = false
theorem dec_shut (r : Int) (hr : I32 r) (h : opn r = false) : Shut (decU r) := by
  have hb := bottom r hr
  have ho := opn_first r hr
  intro y hy
  cases hd : decU r with
  | nil => have := hb.lo; rw [hd] at this; simp at this
  | cons z t =>
    rw [hd] at hy ho
    rcases List.mem_cons.1 hy with rfl | hy
    · rw [← h, ← ho]; rfl
    · exact hb.shut y (by rw [hd]; exact hy)
theorem flat_shut (l : List Int) (hl : ∀ x ∈ l, I32 x) (h : Shut l) : Shut (flat l) := by
  intro y hy
  unfold flat at hy
  obtain ⟨x, hx, hy⟩ := List.mem_flatMap.1 hy
  exact dec_shut x (hl x hx) (h x hx) y hy
theorem nrm_shut (l : List Int) (hl : ∀ x ∈ l, I32 x) (h : Shut l) : Shut (nrm l) := fun y hy => flat_shut l hl h y ((ordL_mem _ _).1 hy)
theorem nrm_open (x : Int) (t : List Int) (hl : ∀ y ∈ x :: t, I32 y) (ho : opn x = true) : ∃ y u v, nrm (x :: t) = y :: ordL (u ++ v) ∧ opn y = true ∧ Shut u ∧ v = flat t := by
  have hx := hl x (List.mem_cons_self ..)
  have hb := bottom x hx
  have hf := opn_first x hx
  cases hd : decU x with
  | nil => have := hb.lo; rw [hd] at this; simp at this
  | cons z w =>
    rw [hd] at hf
    have hz : opn z = true := by rw [← ho, ← hf]; rfl
    have hpz := hb.zero z (by rw [hd]; exact List.mem_cons_self ..)
    have hc : cls z = 0 := by
      rw [opn_zero z hpz] at hz
      simpa using (Bool.and_eq_true_iff.1 hz).1
    refine ⟨z, w, flat t, ?_, hz, fun y hy => hb.shut y (by rw [hd]; exact hy), rfl⟩
    unfold nrm
    rw [flat_cons, hd]
    have h := ordL_starter [] (w ++ flat t) hc
    exact h
theorem cutT_shut : ∀ (u rs : List Int), Shut u → cutT u rs = [txt (rs ++ u)]
  | [], rs, _ => by rw [List.append_nil]; rfl
  | x :: u, rs, h => by
    rw [cutT, h x (List.mem_cons_self ..)]
    simp only [Bool.false_eq_true, if_false]
    rw [cutT_shut u _ (fun y hy => h y (List.mem_cons_of_mem _ hy)), List.append_assoc]
    rfl
theorem txt_nrm (l : List Int) (hl : ∀ x ∈ l, I32 x) : txt (nrm l) = txt l := by unfold txt; rw [nrm_id l hl]
theorem seg_nrm (x : Int) (t : List Int) (hl : ∀ y ∈ x :: t, I32 y) (h : Shut t) : cutTS (nrm (x :: t)) = [txt (x :: t)] := by
  have hne : nrm (x :: t) ≠ [] := by
    intro e
    have h1 := nrm_len (x :: t)
    rw [e] at h1
    exact flat_ne (x :: t) (by simp) (List.length_eq_zero_iff.1 h1.symm)
  have hsh : ∃ y u, nrm (x :: t) = y :: u ∧ Shut u := by
    by_cases ho : opn x = true
    · obtain ⟨y, u, v, e, _, hu, hv⟩ := nrm_open x t hl ho
      refine ⟨y, _, e, fun z hz => ?_⟩
      rcases List.mem_append.1 ((ordL_mem _ _).1 hz) with h1 | h1
      · exact hu z h1
      · rw [hv] at h1
        exact flat_shut t (fun y hy => hl y (List.mem_cons_of_mem _ hy)) h z h1
    · have ho2 : opn x = false := by simpa using ho
      have hs := nrm_shut (x :: t) hl (by intro z hz; rcases List.mem_cons.1 hz with rfl | hz; (· exact ho2); (· exact h z hz))
      cases hn : nrm (x :: t) with
      | nil => exact absurd hn hne
      | cons y u => exact ⟨y, u, rfl, fun z hz => hs z (by rw [hn]; exact List.mem_cons_of_mem _ hz)⟩
  obtain ⟨y, u, e, hu⟩ := hsh
  rw [e]
  show cutT u [y] = _
  rw [cutT_shut u [y] hu]
  show [txt (y :: u)] = _
  rw [← e, txt_nrm _ hl]
theorem cut_nrm : ∀ (t : List Int) (x : Int) (v : List Int), (∀ y ∈ (x :: v) ++ t, I32 y) → Shut v → cutTS (nrm ((x :: v) ++ t)) = cutT t (x :: v)
  | [], x, v, hl, hv => by
    rw [List.append_nil] at hl ⊢
    exact seg_nrm x v hl hv
  | z :: t, x, v, hl, hv => by
    have hl1 : ∀ y ∈ x :: v, I32 y := fun y hy => hl y (List.mem_append_left _ hy)
    have hl2 : ∀ y ∈ z :: t, I32 y := fun y hy => hl y (List.mem_append_right _ hy)
    rw [cutT]
    by_cases ho : opn z = true
    · rw [if_pos ho]
      have h := Oqe.opens_cut ((x :: v) ++ z :: t) (x :: v).length (by rw [List.length_append, List.length_cons (a := z)]; omega) (by rw [List.getElem_append_right (Nat.le_refl _)]; simp [ho])
      rw [List.take_left, List.drop_left] at h
      rw [h, cutTS_app, seg_nrm x v hl1 hv]
      · have ih := cut_nrm t z [] (by simpa using hl2) (fun _ h => by cases h)
        simp only [List.singleton_append] at ih ⊢
        rw [ih]
      · intro a b hab
        obtain ⟨y, u, w, e, hy, _⟩ := nrm_open z t hl2 ho
        rw [e] at hab
        rw [← (List.cons.inj hab).1]
        exact hy
    · have ho2 : opn z = false := by simpa using ho
      rw [if_neg ho]
      have e : (x :: v) ++ z :: t = (x :: (v ++ [z])) ++ t := by simp
      rw [e] at hl ⊢
      rw [cut_nrm t x (v ++ [z]) hl (by intro y hy; rcases List.mem_append.1 hy with h | h; (· exact hv y h); (· rw [List.mem_singleton.1 h]; exact ho2))]
      rfl
theorem cutTS_nrm (r : List Int) (hl : ∀ y ∈ r, I32 y) : cutTS (nrm r) = cutTS r := by
  cases r with
  | nil => rfl
  | cons x t => exact cut_nrm t x [] hl (fun _ h => by cases h)
theorem vld_keys : ∀ r ∈ keys, (decU r).all vld = true := by decide +kernel
theorem vld_dec (r : Int) (h : vld r = true) : ∀ y ∈ decU r, vld y = true := by
  rcases cases3 r with h1 | ⟨s, hs, rfl⟩ | h1
  · exact List.all_eq_true.1 (vld_keys r h1)
  · intro y hy
    rw [syl_dec s hs] at hy
    have h5 : y = 4352 + ((s / 588 : Nat) : Int) ∨ y = 4449 + ((s % 588 / 28 : Nat) : Int) ∨ y = 4519 + ((s % 28 : Nat) : Int) := by
      rcases List.mem_append.1 hy with h | h
      · rcases List.mem_cons.1 h with h | h
        · exact .inl h
        · exact .inr (.inl (List.mem_singleton.1 h))
      · split at h
        · cases h
        · exact .inr (.inr (List.mem_singleton.1 h))
    unfold vld
    rw [decide_eq_true_eq]
    omega
  · intro y hy
    rw [dec_zero r h1, List.mem_singleton] at hy
    rw [hy]
    exact h
theorem vld_nrm (l : List Int) (h : ∀ x ∈ l, vld x = true) : ∀ y ∈ nrm l, vld y = true := by
  intro y hy
  have hy := (ordL_mem _ _).1 hy
  unfold flat at hy
  obtain ⟨x, hx, hy⟩ := List.mem_flatMap.1 hy
  exact vld_dec x (h x hx) y hy
theorem vld_rns : ∀ (N : Nat) (b : List Int), b.length ≤ N → Bytes b → ∀ y ∈ rns b, vld y = true
  | _, [], _, _ => by rw [rns_nil]; intro y hy; cases hy
  | 0, c :: t, h, _ => by simp at h
  | N + 1, c :: t, h, hB => by
    rw [rns_cons]
    intro y hy
    rcases List.mem_cons.1 hy with rfl | hy
    · exact (Bkg.one1_good c t (hB c (List.mem_cons_self ..)) (fun x hx => hB x (List.mem_cons_of_mem _ hx))).1
    · have := Ux.drop_lt c t
      exact vld_rns N _ (by simp only [List.length_cons] at h; omega) (fun x hx => hB x (List.mem_of_mem_drop hx)) y hy
theorem rns_enc (l : List Int) (h : ∀ x ∈ l, vld x = true) : rns (enc l) = l := by
  have := Bk.ful_enc l 0
  rw [rns_ful] at this
  rw [this]
  have e : ∀ x ∈ l, fixr x = x := fun x hx => by unfold fixr; rw [if_pos (h x hx)]
  rw [List.map_congr_left (g := id) (by intro x hx; exact e x hx), List.map_id]
theorem r32 (a : List Int) (ha : Bytes a) : ∀ x ∈ rns a, I32 x := Ot.runes32 a ha
theorem key (a b : List Int) (ha : Bytes a) (hb : Bytes b) : cutTS (rns a) = cutTS (rns b) ↔ txt (rns a) = txt (rns b) := by
  constructor
  · intro h
    rw [← cutTS_cat, ← cutTS_cat, h]
  · intro h
    have h1 := Bk.str_inj (enc_byte _) (enc_byte _) h
    have va := vld_nrm _ (vld_rns a.length a (Nat.le_refl _) ha)
    have vb := vld_nrm _ (vld_rns b.length b (Nat.le_refl _) hb)
    have h2 : nrm (rns a) = nrm (rns b) := by rw [← rns_enc _ va, ← rns_enc _ vb, h1]
    rw [← cutTS_nrm _ (r32 a ha), ← cutTS_nrm _ (r32 b hb), h2]
def nfd (a : List Int) : List Int := enc (nrm (rns a))
theorem nfd_rns (a : List Int) (ha : Bytes a) : rns (nfd a) = nrm (rns a) := rns_enc _ (vld_nrm _ (vld_rns a.length a (Nat.le_refl _) ha))
theorem nfd_cut (a : List Int) (ha : Bytes a) : cutTS (rns (nfd a)) = cutTS (rns a) := by rw [nfd_rns a ha, cutTS_nrm _ (r32 a ha)]
theorem nfd_len (a : List Int) (ha : Bytes a) : (nfd a).length ≤ 12 * a.length := by
  have h1 := nrm_len3 (rns a) (Ot.runes32 a ha)
  have h2 := rns_len a
  have h3 := (enc_len (nrm (rns a))).2
  unfold nfd
  omega
theorem nfd_byte (a : List Int) : Bytes (nfd a) := enc_byte _
end Go.Proofs.YtiggjbclbdikmaaDoor.Sgw
namespace Go.Proofs.YtiggjbclbdikmaaDoor.Sgy
set_option linter.unusedVariables false
set_option linter.unusedSimpArgs false
open Go.Proofs.YtiggjbclbdikmaaDoor.Ux (Bytes full)
open Go.Proofs.YtiggjbclbdikmaaDoor.Ot (rns)
open Go.RowKit Go.Proofs.YtiggjbclbdikmaaDoorW.PrintWords Go.Proofs.YtiggjbclbdikmaaDoor.Hp Go.Proofs.YtiggjbclbdikmaaDoor.Fm Go.Proofs.YtiggjbclbdikmaaDoor.Ev0 Go.Proofs.YtiggjbclbdikmaaDoor.X Go.Proofs.YtiggjbclbdikmaaDoor.Va Go.Proofs.YtiggjbclbdikmaaDoor.Oa Go.Proofs.YtiggjbclbdikmaaDoor.Ob Go.Proofs.YtiggjbclbdikmaaDoor.Vp0 Go.Proofs.YtiggjbclbdikmaaDoor.Vr Go.Proofs.YtiggjbclbdikmaaDoor.Vu Go.Proofs.YtiggjbclbdikmaaDoor.Sga Go.Proofs.YtiggjbclbdikmaaDoor.Sgb Go.Proofs.YtiggjbclbdikmaaDoor.Sgd Go.Proofs.YtiggjbclbdikmaaDoor.Sgp Go.Proofs.YtiggjbclbdikmaaDoor.Sgq Go.Proofs.YtiggjbclbdikmaaDoor.Sgt Go.Proofs.YtiggjbclbdikmaaDoor.Sgu Go.Proofs.YtiggjbclbdikmaaDoor.Sgv
theorem eqTEv (l m : List ByteArray) (hl : l.length ≤ 100000000) : Ev (fun k => slices_Equal_string_string.f k l m) (decide (l = m)) := by
  unfold slices_Equal_string_string.f
  by_cases hlm : l.length = m.length
  · simp only [if_pos (show (l.length : Int) = (m.length : Int) by omega)]
    have key : ∀ q i : Nat, i + q = l.length → (l.take i = m.take i) → Ev (fun k => slices_Equal_string_string.l0 k l m (l.length : Int) (i : Int)) (decide (l = m)) := by
      intro q
      induction q with
      | zero =>
        intro i hi hp
        obtain rfl : i = l.length := hi
        refine Ev.step (fun k => slices_Equal_string_string.l0.eq_2 ..) ?_
        simp only [if_neg (Int.lt_irrefl _)]
        have e : l = m := by rw [List.take_length, hlm, List.take_length] at hp; exact hp
        rw [decide_eq_true e]
        exact Ev.now _
      | succ q ih =>
        intro i hi hp
        have hil : i < l.length := by omega
        have him : i < m.length := by omega
        refine Ev.step (fun k => slices_Equal_string_string.l0.eq_2 ..) ?_
        simp only [if_pos (show (i : Int) < (l.length : Int) by omega), if_pos (show (0 : Int) ≤ (i : Int) by omega), if_pos (show (i : Int) < (m.length : Int) by omega), Sgr.rdS hil, Sgr.rdS him, Sgr.ba_list]
        by_cases he : l[i] = m[i]
        · simp only [if_pos he, w64 (i := i) (by omega)]
          refine ih (i + 1) (by omega) ?_
          rw [List.take_succ_eq_append_getElem hil, List.take_succ_eq_append_getElem him, hp, he]
        · simp only [if_neg he]
          rw [decide_eq_false (fun h => he (by subst h; rfl))]
          exact Ev.now _
    exact key l.length 0 (by omega) rfl
  · simp only [if_neg (show ¬ (l.length : Int) = (m.length : Int) by omega)]
    rw [decide_eq_false (fun h => hlm (by rw [h]))]
    exact Ev.now _
theorem TextR (w : World) (A : Option Addr) (n c : Nat) (b : List Int) (hC : KB.C w A n b) (hn : n = b.length) (hc : n ≤ c) (hB : Bytes b) (hl : n ≤ 13000000) :
    Calls Tryd.prog 26 #[.slice A n c] w fun e w' => e = .returned (.string (txt (rns b))) ∧ Below w.heap.size w w' := by
  subst hn
  obtain ⟨k, hk⟩ := Ev.rounds (textEv b hB (by omega))
  exact tremaref03_Text.calls k A c b _ w hC hc hk
theorem TextsR (w : World) (hG : G w) (A : Option Addr) (n c : Nat) (b : List Int) (hC : KB.C w A n b) (hn : n = b.length) (hc : n ≤ c) (hB : Bytes b) (hl : n ≤ 13000000) (r : List ByteArray) (hr : r = cutTS (rns b)) :
    Calls Tryd.prog 43 #[.slice A n c] w fun e w' => ∃ A' c', e = .returned (.slice A' r.length c') ∧ r.length ≤ c' ∧ Kd.string.C w' A' r.length r ∧ Below w.heap.size w w' := by
  subst hn hr
  refine (seg_Texts.calls A c b (cutTS (rns b)) w hC hc (textsE b hB hl) hG).mono ?_
  rintro e w' ⟨v, rfl, p1, p2⟩
  obtain ⟨A', c', rfl, hc', hC'⟩ := Kd.R_reads p1
  exact ⟨A', c', rfl, hc', hC', p2⟩
theorem SameR (w : World) (hG : G w) (A B : Option Addr) (n c m d : Nat) (a b : List Int) (hC : KB.C w A n a) (hn : n = a.length) (hc : n ≤ c) (hD : KB.C w B m b) (hm : m = b.length) (hd : m ≤ d) (ha : Bytes a) (hb : Bytes b) (hl : n ≤ 13000000) (hl2 : m ≤ 13000000) (s : Bool) (hs : decide (cutTS (rns a) = cutTS (rns b)) = s) :
    Calls Tryd.prog 52 #[.slice A n c, .slice B m d] w fun e w' => e = .returned (.bool s) ∧ Below w.heap.size w w' := by
  subst hn hm hs
  have n1 := cutTS_len (rns a)
  have n2 := rns_len a
  have h : Ev (fun k => seg_Same.f k a b) (decide (cutTS (rns a) = cutTS (rns b))) := by
    unfold seg_Same.f
    simp only [textsE a ha hl, textsE b hb hl2, Option.bind_some]
    exact Ev.bind (eqTEv _ _ (by omega)) (Ev.now _)
  obtain ⟨k, hk⟩ := Ev.rounds h
  exact seg_Same.calls k A c a B d b _ w hC hc hD hd hk hG
theorem SameTR (w : World) (A B : Option Addr) (n c m d : Nat) (l k : List ByteArray) (hC : Kd.string.C w A n l) (hn : n = l.length) (hc : n ≤ c) (hD : Kd.string.C w B m k) (hm : m = k.length) (hd : m ≤ d) (hl : n ≤ 100000000) (s : Bool) (hs : decide (l = k) = s) :
    Calls Tryd.prog 42 #[.slice A n c, .slice B m d] w fun e w' => e = .returned (.bool s) ∧ Below w.heap.size w w' := by
  subst hn hm hs
  obtain ⟨q, hq⟩ := Ev.rounds (Sgr.sameTEv l k hl)
  exact (tremaref01_SameTexts.calls q A c l B d k _ w hC hc hD hd hq).mono fun e w' ⟨h1, h2⟩ => ⟨h1, h2.below⟩
theorem AllR (w : World) (A : Option Addr) (n c : Nat) (b : List Int) (hC : KB.C w A n b) (hn : n = b.length) (hc : n ≤ c) (hB : Bytes b) (hl : n ≤ 10000000) (r : List SG) (hr : r = cutS (full b)) :
    Calls Tryd.prog 45 #[.slice A n c] w fun e w' => ∃ A' c', e = .returned (.slice A' r.length c') ∧ r.length ≤ c' ∧ kG.C w' A' r.length r ∧ Below w.heap.size w w' := by
  subst hn hr
  obtain ⟨k, hk⟩ := Ev.rounds (allEv b hB hl)
  refine (tremaref04_All.calls k A c b _ w hC hc hk).mono ?_
  rintro e w' ⟨v, rfl, p1, p2⟩
  obtain ⟨A', c', rfl, hc', hC'⟩ := Kd.R_reads p1
  exact ⟨A', c', rfl, hc', hC', p2⟩
theorem midC (A : Option Addr) (c : Nat) (l : List Int) (hc : l.length ≤ c) (a b : Nat) (h1 : a ≤ b) (h2 : b ≤ l.length) :
    ∃ A' : Option Addr, (∀ W : World, (Instr.slice 27 (.slice A l.length c) (some (.int .i64 (a : Int))) (some (.int .i64 (b : Int))) none).run Tryd.prog W = .ok (.slice A' (b - a) (c - a)) W) ∧
      (∀ w, KB.C w A l.length l → KB.C w A' (b - a) ((l.take b).drop a)) ∧ b - a ≤ c - a := by
  obtain ⟨i, hi, _, hsz, _⟩ := info_parts info5
  obtain ⟨A', q1, q2, q3⟩ := print_mid_of (P := Tryd.prog) (Value.int .u8) 0 27 5 .i64 .i64 Tryd.underlying27 hi hsz A c l (a : Int) (b : Int) (by omega) (by omega) (by omega) hc
  have hl : ((l.take b).drop a).length = b - a := by rw [List.length_drop, List.length_take]; omega
  simp only [Int.toNat_natCast, hl] at q1 q2 q3
  exact ⟨A', q1, fun w h => Kd.C_of_reads (h1 := fun _ => rfl) (q2 w (Kd.reads_of_C h)), q3⟩
end Go.Proofs.YtiggjbclbdikmaaDoor.Sgy
namespace Go.Proofs.YtiggjbclbdikmaaDoor.Lss
set_option linter.unusedVariables false
set_option linter.unusedSimpArgs false
open Go.Proofs.YtiggjbclbdikmaaDoor.Ux (Bytes full)
open Go.Proofs.YtiggjbclbdikmaaDoor.Ot (rns)
open Go.RowKit Go.Proofs.YtiggjbclbdikmaaDoorW.PrintWords Go.Proofs.YtiggjbclbdikmaaDoor.Hp Go.Proofs.YtiggjbclbdikmaaDoor.Fm Go.Proofs.YtiggjbclbdikmaaDoor.X Go.Proofs.YtiggjbclbdikmaaDoor.Va Go.Proofs.YtiggjbclbdikmaaDoor.Oa Go.Proofs.YtiggjbclbdikmaaDoor.Vp0 Go.Proofs.YtiggjbclbdikmaaDoor.Sga Go.Proofs.YtiggjbclbdikmaaDoor.Sgb Go.Proofs.YtiggjbclbdikmaaDoor.Sgd Go.Proofs.YtiggjbclbdikmaaDoor.Sgp Go.Proofs.YtiggjbclbdikmaaDoor.Sgt Go.Proofs.YtiggjbclbdikmaaDoor.Sgu Go.Proofs.YtiggjbclbdikmaaDoor.Sgv Go.Proofs.YtiggjbclbdikmaaDoor.Sgw Go.Proofs.YtiggjbclbdikmaaDoor.Sgy
theorem fills_get (b : List Int) : ∀ (l : List SG) (a : Nat), Fills b a l → ∀ i (h : i < l.length), ∃ p e : Nat, l[i].f1 = (p : Int) ∧ l[i].f2 = (e : Int) ∧ p ≤ e ∧ e ≤ b.length ∧ l[i].f0 = txt (rns ((b.take e).drop p))
  | [], _, _, i, h => by simp at h
  | s :: l, a, ⟨h1, e, h2, hae, hel, h3, hf⟩, 0, _ => ⟨a, e, h1, h2, by omega, hel, h3⟩
  | s :: l, a, ⟨h1, e, h2, hae, hel, h3, hf⟩, i + 1, h => fills_get b l e hf i (by simpa using h)
theorem pieces (a b : List Int) (ha : Bytes a) (hb : Bytes b) (hla : a.length ≤ 1048576) (hlb : b.length ≤ 1048576) (h : cutTS (rns a) = cutTS (rns b)) (i : Nat) (hi : i < (cutS (full a)).length) :
    ∃ (hj : i < (cutS (full b)).length) (p e q f : Nat), (cutS (full a))[i].f1 = (p : Int) ∧ (cutS (full a))[i].f2 = (e : Int) ∧ p ≤ e ∧ e ≤ a.length ∧ (cutS (full b))[i].f1 = (q : Int) ∧ (cutS (full b))[i].f2 = (f : Int) ∧ q ≤ f ∧ f ≤ b.length ∧
      decide (cutTS (rns ((a.take e).drop p)) = cutTS (rns ((b.take f).drop q))) = true := by
  have h2 : (cutS (full a)).map (·.f0) = (cutS (full b)).map (·.f0) := by
    rw [← texts_cut a ha (by omega), ← texts_cut b hb (by omega), texts_rns a ha (by omega), texts_rns b hb (by omega), h]
  have hl : (cutS (full a)).length = (cutS (full b)).length := by
    have := congrArg List.length h2
    simpa using this
  have hj : i < (cutS (full b)).length := by omega
  obtain ⟨p, e, p1, p2, p3, p4, p5⟩ := fills_get a _ 0 (fills_all a) i hi
  obtain ⟨q, f, q1, q2, q3, q4, q5⟩ := fills_get b _ 0 (fills_all b) i hj
  refine ⟨hj, p, e, q, f, p1, p2, p3, p4, q1, q2, q3, q4, decide_eq_true ((key _ _ (fun x hx => ha x (List.mem_of_mem_take (List.mem_of_mem_drop hx))) (fun x hx => hb x (List.mem_of_mem_take (List.mem_of_mem_drop hx)))).2 ?_)⟩
  rw [← p5, ← q5]
  have h3 : ((cutS (full a)).map (·.f0))[i]'(by rw [List.length_map]; exact hi) = ((cutS (full b)).map (·.f0))[i]'(by rw [List.length_map]; exact hj) := by
    simp only [h2]
  simpa using h3
set_option maxRecDepth 100000 in
set_option maxHeartbeats 8000000 in
theorem same (w : World) (hG : G w) (A B : Option Addr) (na nb ca cb : Nat) (a b : List Int) (hA : KB.C w A na a) (hna : na = a.length) (hca : na ≤ ca) (ha : Bytes a) (hla : na ≤ 1048576)
    (hB : KB.C w B nb b) (hnb : nb = b.length) (hcb : nb ≤ cb) (hb : Bytes b) (hlb : nb ≤ 1048576) :
    Calls Tryd.prog 15 #[.slice A na ca, .slice B nb cb] w fun e w' => e = .returned (.bool true) ∧ Below w.heap.size w w' := by
  obtain ⟨s, hs⟩ : ∃ s, s = decide (cutTS (rns a) = cutTS (rns b)) := ⟨_, rfl⟩
  have hst : ((txt (rns a)).toList == (txt (rns b)).toList) = s := by
    rw [hs]
    by_cases h : txt (rns a) = txt (rns b)
    · rw [decide_eq_true ((key a b ha hb).2 h), h, beq_self_eq_true]
    · rw [decide_eq_false (fun h2 => h ((key a b ha hb).1 h2))]
      exact beq_eq_false_iff_ne.2 (fun h2 => h ((Sgr.ba_list _ _).1 h2))
  obtain ⟨ta, hta⟩ : ∃ t, t = txt (rns a) := ⟨_, rfl⟩
  obtain ⟨tb, htb⟩ : ∃ t, t = txt (rns b) := ⟨_, rfl⟩
  obtain ⟨xa, hxa⟩ : ∃ x, x = cutTS (rns a) := ⟨_, rfl⟩
  obtain ⟨xb, hxb⟩ : ∃ x, x = cutTS (rns b) := ⟨_, rfl⟩
  rw [← hta, ← htb] at hst
  have HG := Aside0.mk hG
  have HA := Aside0.mk hA
  have HB := Aside0.mk hB
  have HNA := Aside0.mk hna
  have HNB := Aside0.mk hnb
  have HBA := Aside0.mk ha
  have HBB := Aside0.mk hb
  have HS := Aside0.mk hs
  have HST := Aside0.mk hst
  have HTA := Aside0.mk hta
  have HTB := Aside0.mk htb
  have HXA := Aside0.mk hxa
  have HXB := Aside0.mk hxb
  have hal := cutTS_len (rns a)
  have hal2 := rns_len a
  have HLX := Aside0.mk (show xa.length ≤ 1048576 by rw [hxa]; omega)
  clear hG hA hB hna hnb ha hb hs hst hta htb hxa hxb hal hal2
  have TK0 := Aside0.mk True.intro
  have TK3 := Aside0.mk True.intro
  have TK1 := Aside0.mk True.intro
  have TK2 := Aside0.mk True.intro
  go_enter Tryd.func15, Tryd.ntmps15
  go_upto_region 4 with (first | (go_at_call 38; refine (Sgf.segFixedP w HG.out).mono ?_; rintro E w1 ⟨rfl, h1⟩; have H1 := Aside0.mk h1; clear h1) | (go_at_call 26; clear TK0; refine (TextR w1 A na ca a (Kd.C_below HA.out H1.out) HNA.out hca HBA.out (by omega)).mono ?_; rw [← HTA.out]; rintro E w2 ⟨rfl, p1⟩; have H2 := Aside0.mk (below_then H1.out H1.out.size p1); clear p1) | (go_at_call 26; refine (TextR w2 B nb cb b (Kd.C_below HB.out H2.out) HNB.out hcb HBB.out (by omega)).mono ?_; rw [← HTB.out]; rintro E w3 ⟨rfl, p1⟩; have H3 := Aside0.mk (below_then H2.out H2.out.size p1); clear p1))
  rw [HST.out]
  clear HST HTB
  go_upto_region 5 with (first | (go_at_call 43; clear TK1; refine (TextsR w3 (HG.out.below H3.out) A na ca a (Kd.C_below HA.out H3.out) HNA.out hca HBA.out (by omega) xa HXA.out).mono ?_; rintro E w4 ⟨A4, c4, rfl, hc4, p0, p1⟩; have H4 := Aside0.mk (below_then H3.out H3.out.size p1); have C4 := Aside0.mk p0; clear p0 p1) | (go_at_call 43; refine (TextsR w4 (HG.out.below H4.out) B nb cb b (Kd.C_below HB.out H4.out) HNB.out hcb HBB.out (by omega) xb HXB.out).mono ?_; rintro E w5 ⟨A5, c5, rfl, hc5, p0, p1⟩; have H5 := Aside0.mk (below_then H4.out H4.out.size p1); have C5 := Aside0.mk p0; have C4b := Aside0.mk (Kd.C_below C4.out p1); clear p0 p1))
  have hss : (s != s) = false := by simp
  go_upto_region 7 with (first | (go_at_call 52; clear TK2; refine (SameR w5 (HG.out.below H5.out) A B na ca nb cb a b (Kd.C_below HA.out H5.out) HNA.out hca (Kd.C_below HB.out H5.out) HNB.out hcb HBA.out HBB.out (by omega) (by omega) s HS.out.symm).mono ?_; rintro E w6 ⟨rfl, p1⟩; have H6 := Aside0.mk (below_then H5.out H5.out.size p1); have C46 := Aside0.mk (Kd.C_below C4b.out p1); have C56 := Aside0.mk (Kd.C_below C5.out p1); clear p1) | (go_at_call 42; refine (SameTR w6 A4 A5 xa.length c4 xb.length c5 xa xb C46.out rfl hc4 C56.out rfl hc5 (by have := HLX.out; omega) s (by rw [HXA.out, HXB.out]; exact HS.out.symm)).mono ?_; rintro E w7 ⟨rfl, p1⟩; have H7 := Aside0.mk (below_then H6.out H6.out.size p1); have C47 := Aside0.mk (Kd.C_below C46.out p1); clear p1) | (go_at_call 52; refine (SameR w7 (HG.out.below H7.out) A A na ca na ca a a (Kd.C_below HA.out H7.out) HNA.out hca (Kd.C_below HA.out H7.out) HNA.out hca HBA.out HBA.out (by omega) (by omega) true (decide_eq_true rfl)).mono ?_; rintro E w8 ⟨rfl, p1⟩; have H8 := Aside0.mk (below_then H7.out H7.out.size p1); have C48 := Aside0.mk (Kd.C_below C47.out p1); clear p1))
  have kb := fun W => print_bytes (P := Tryd.prog) 9 27 5 Tryd.underlying9 Tryd.underlying27 Tryd.underlying5 ta W
  clear hss C4 C4b C46 C47 C5 C56
  go_upto_region 8 with (go_at_call 26; go_must (refine (TextR w8 A na ca a (Kd.C_below HA.out H8.out) HNA.out hca HBA.out (by omega)).mono ?_; rw [← HTA.out]; rintro E w9 ⟨rfl, p1⟩; have H9 := Aside0.mk (below_then H8.out H8.out.size p1); have C49 := Aside0.mk (Kd.C_below C48.out p1); clear p1))
  clear kb
  have hbs : bytesOf ta = nfd a := by rw [HTA.out]; exact Ot.bytes_str _ (nfd_byte a)
  obtain ⟨nN, hnN⟩ : ∃ n, n = ta.size := ⟨_, rfl⟩
  have hnl : nN = (nfd a).length := by rw [hnN, ← bytesOf_length, hbs]
  have hnl2 : nN ≤ 13000000 := by
    have := nfd_len a HBA.out
    have := HNA.out
    omega
  have hcn : KB.C (Lib.bytesWorld w9 5 ta) (some ⟨w9.heap.size, 0, none⟩) nN (nfd a) := by
    have h := bytes_reads w9 5 ta (by omega)
    rw [hbs, ← hnN] at h
    exact rdC h
  have hbw : Below w.heap.size w (Lib.bytesWorld w9 5 ta) := bytes_below H9.out H9.out.size 5 ta
  have hb9 : Below w9.heap.size w9 (Lib.bytesWorld w9 5 ta) := bytes_below (Below.refl _ _) (Nat.le_refl _) 5 ta
  have hcg : nN ≤ grownCap w9 ta.size 0 5 := by rw [hnN]; exact grownCap_ge _ _ _ _
  rw [← hnN] at hcg ⊢
  obtain ⟨cN, hcN⟩ : ∃ c, c = grownCap w9 nN 0 5 := ⟨_, rfl⟩
  rw [← hcN] at hcg ⊢
  obtain ⟨AN, hAN⟩ : ∃ A, A = some (⟨w9.heap.size, 0, none⟩ : Addr) := ⟨_, rfl⟩
  rw [← hAN] at hcn ⊢
  obtain ⟨w10, hw10⟩ : ∃ w10, w10 = Lib.bytesWorld w9 5 ta := ⟨_, rfl⟩
  rw [← hw10] at hcn hbw hb9 ⊢
  have HNN := Aside0.mk hnl
  have CN := Aside0.mk hcn
  have H10 := Aside0.mk hbw
  have C410 := Aside0.mk (Kd.C_below C49.out hb9)
  have HBN := Aside0.mk (nfd_byte a)
  have HNC := Aside0.mk (nfd_cut a HBA.out)
  obtain ⟨N, hN⟩ : ∃ N, N = nfd a := ⟨_, rfl⟩
  rw [← hN] at HNN CN HBN HNC
  clear hnl hcn hbw hb9 hcN hAN hw10 hnN hbs hN C48 C49
  go_upto_region 10 with (first | (go_at_call 52; go_must (refine (SameR w10 (HG.out.below H10.out) A AN na ca nN cN a N (Kd.C_below HA.out H10.out) HNA.out hca CN.out HNN.out hcg HBA.out HBN.out (by omega) hnl2 true (decide_eq_true HNC.out.symm)).mono ?_; rintro E w11 ⟨rfl, p1⟩; have H11 := Aside0.mk (below_then H10.out H10.out.size p1); have C411 := Aside0.mk (Kd.C_below C410.out p1); have CN11 := Aside0.mk (Kd.C_below CN.out p1); clear p1)) | (go_at_call 43; go_must (refine (TextsR w11 (HG.out.below H11.out) AN nN cN N CN11.out HNN.out hcg HBN.out hnl2 xa (by rw [HXA.out]; exact HNC.out.symm)).mono ?_; rintro E w12 ⟨A12, c12, rfl, hc12, p0, p1⟩; have H12 := Aside0.mk (below_then H11.out H11.out.size p1); have C12 := Aside0.mk p0; have C412 := Aside0.mk (Kd.C_below C411.out p1); clear p0 p1)) | (go_at_call 42; go_must (refine (SameTR w12 A12 A4 xa.length c12 xa.length c4 xa xa C12.out rfl hc12 C412.out rfl hc4 (by have := HLX.out; omega) true (decide_eq_true rfl)).mono ?_; rintro E w13 ⟨rfl, p1⟩; have H13 := Aside0.mk (below_then H12.out H12.out.size p1); clear p1)))
  have hfa := Sgr.fsize a HBA.out (by have := HNA.out; omega)
  obtain ⟨la, hla2⟩ : ∃ l, l = cutS (full a) := ⟨_, rfl⟩
  obtain ⟨lb, hlb2⟩ : ∃ l, l = cutS (full b) := ⟨_, rfl⟩
  have HPC := Aside0.mk (fun hx => pieces a b HBA.out HBB.out (by have := HNA.out; omega) (by have := HNB.out; omega) hx)
  rw [← hla2] at hfa
  rw [← hla2, ← hlb2] at HPC
  have hLa : la.length ≤ 1048576 := by have := HNA.out; omega
  have HLA := Aside0.mk hla2
  have HLB := Aside0.mk hlb2
  clear hfa hla2 hlb2 C410 C411 C412 CN CN11 C12 HNN HBN HNC
  go_upto_region 11 with (first | (go_at_call 45; clear TK3; refine (AllR w13 A na ca a (Kd.C_below HA.out H13.out) HNA.out hca HBA.out (by omega) la HLA.out).mono ?_; rintro E w14 ⟨A14, c14, rfl, hc14, p0, p1⟩; have H14 := Aside0.mk (below_then H13.out H13.out.size p1); have C14 := Aside0.mk p0; clear p0 p1) | (go_at_call 45; go_must (refine (AllR w14 B nb cb b (Kd.C_below HB.out H14.out) HNB.out hcb HBB.out (by omega) lb HLB.out).mono ?_; rintro E w15 ⟨A15, c15, rfl, hc15, p0, p1⟩; have H15 := Aside0.mk (below_then H14.out H14.out.size p1); have C15 := Aside0.mk p0; have C145 := Aside0.mk (Kd.C_below C14.out p1); clear p0 p1)))
  obtain ⟨L, hL⟩ : ∃ L, L = la.length := ⟨_, rfl⟩
  obtain ⟨M, hM⟩ : ∃ M, M = lb.length := ⟨_, rfl⟩
  rw [← hL] at hc14 hLa C145 ⊢
  rw [← hM] at hc15 C15 ⊢
  have HL := Aside0.mk hL
  have HM := Aside0.mk hM
  clear hL hM C14
  go_wp2
  go_loopw [11] (fun v11 wr => ∃ i : Nat, v11 = .int .i64 i ∧ i ≤ L ∧ Aside0 (Below w15.heap.size w15 wr)) (fun v11 _ => L - (intOf v11).toNat)
  case atStart => exact ⟨0, rfl, Nat.zero_le _, ⟨Below.refl _ _⟩⟩
  case round =>
    obtain ⟨i, rfl, hi, HR⟩ := hrel
    by_cases hlt : i < L
    · have hd : decide ((i : Int) < (L : Int)) = true := decide_eq_true (by omega)
      have hd2 : decide (i < L) = true := decide_eq_true hlt
      cases s with
      | false =>
        go_wp2
        go_ret
        exact ⟨rfl, below_then H15.out H15.out.size HR.out⟩
      | true =>
        have hil : i < la.length := by rw [← HL.out]; exact hlt
        obtain ⟨hjl, p, e, q, f, p1, p2, p3, p4, q1, q2, q3, q4, hpq⟩ := HPC.out (of_decide_eq_true HS.out.symm) i hil
        have hjm : i < M := by rw [HM.out]; exact hjl
        obtain ⟨ad, rfl, z0, z1, z2⟩ := sg_at C145.out i hlt hil
        obtain ⟨bd, rfl, y0, y1, y2⟩ := sg_at C15.out i hjm hjl
        rw [p1] at z1
        rw [p2] at z2
        rw [q1] at y1
        rw [q2] at y2
        have hn0 : (0 : Int) ≤ (i : Int) := by omega
        have hn1 : (i : Int) < (L : Int) := by omega
        have hn2 : (i : Int) < (M : Int) := by omega
        obtain ⟨Am, m1, m2, m3⟩ := midC A ca a (by rw [← HNA.out]; exact hca) p e p3 p4
        obtain ⟨Bm, m4, m5, m6⟩ := midC B cb b (by rw [← HNB.out]; exact hcb) q f q3 q4
        rw [← HNA.out] at m1 m2
        rw [← HNB.out] at m4 m5
        have hsa : Bytes ((a.take e).drop p) := fun x hx => HBA.out x (List.mem_of_mem_take (List.mem_of_mem_drop hx))
        have hsb : Bytes ((b.take f).drop q) := fun x hx => HBB.out x (List.mem_of_mem_take (List.mem_of_mem_drop hx))
        have hna2 := HNA.out
        have hnb2 := HNB.out
        have hea : e - p = ((a.take e).drop p).length := by rw [List.length_drop, List.length_take]; omega
        have hfb : f - q = ((b.take f).drop q).length := by rw [List.length_drop, List.length_take]; omega
        have Z1 := Aside0.mk z1
        have Z2 := Aside0.mk z2
        have Y1 := Aside0.mk y1
        have Y2 := Aside0.mk y2
        have M2 := Aside0.mk m2
        have M5 := Aside0.mk m5
        have HSA := Aside0.mk hsa
        have HSB := Aside0.mk hsb
        have HEA := Aside0.mk hea
        have HFB := Aside0.mk hfb
        have HPQ := Aside0.mk hpq
        have hep : e - p ≤ 13000000 := by omega
        have hfq : f - q ≤ 13000000 := by omega
        clear z0 y0 z1 z2 y1 y2 p1 p2 p3 p4 q1 q2 q3 q4 m2 m5 hsa hsb hna2 hnb2 hea hfb hpq HPC HL HM
        go_upto_region 14 with (fail)
        have HD := Aside0.mk (below_then HR.out HR.out.size (((Drawn0.refl wr).step 1).below))
        refine wp_region_held_drew (S := fun W => Below w15.heap.size w15 W) (by kernel_rfl) HD.out (fun hS => ?_)
        refine wpAnyH_take (i := 0) (oi := { dst := some 68, op := _, type := _, pos := _, after := _, guard := _ }) (v := .slice A na ca) rfl (by kernel_rfl) (by kernel_rfl) (by kernel_rfl) (fun _ _ _ h => h) (Or.inl ⟨by rfl, fun W hW => ?_⟩) hS ?_
        · (go_simp)
        try simp only [Act.put, List.setIfInBounds_toArray, List.set_cons_zero, List.set_cons_succ]
        refine wpAnyH_take (i := 1) (oi := { dst := some 69, op := _, type := _, pos := _, after := _, guard := _ }) (v := .slice (some ad) L c14) rfl (by kernel_rfl) (by kernel_rfl) (by kernel_rfl) (fun _ _ _ h => h) (Or.inl ⟨by rfl, fun W hW => ?_⟩) hS ?_
        · (go_simp)
        try simp only [Act.put, List.setIfInBounds_toArray, List.set_cons_zero, List.set_cons_succ]
        refine wpAnyH_take (i := 2) (oi := { dst := some 70, op := _, type := _, pos := _, after := _, guard := _ }) (v := .int .i64 (i : Int)) rfl (by kernel_rfl) (by kernel_rfl) (by kernel_rfl) (fun _ _ _ h => h) (Or.inl ⟨by rfl, fun W hW => ?_⟩) hS ?_
        · (go_simp)
        try simp only [Act.put, List.setIfInBounds_toArray, List.set_cons_zero, List.set_cons_succ]
        refine wpAnyH_take (i := 3) (oi := { dst := some 71, op := _, type := _, pos := _, after := _, guard := _ }) (v := .pointer (some (ad.add (i * 3)))) rfl (by kernel_rfl) (by kernel_rfl) (by kernel_rfl) (fun _ _ _ h => h) (Or.inl ⟨by rfl, fun W hW => ?_⟩) hS ?_
        · (go_simp)
        try simp only [Act.put, List.setIfInBounds_toArray, List.set_cons_zero, List.set_cons_succ]
        refine wpAnyH_take (i := 4) (oi := { dst := some 72, op := _, type := _, pos := _, after := _, guard := _ }) (v := .pointer (some ⟨(ad.add (i * 3)).block, (ad.add (i * 3)).off + 1, none⟩)) rfl (by kernel_rfl) (by kernel_rfl) (by kernel_rfl) (fun _ _ _ h => h) (Or.inl ⟨by rfl, fun W hW => ?_⟩) hS ?_
        · (go_simp)
        try simp only [Act.put, List.setIfInBounds_toArray, List.set_cons_zero, List.set_cons_succ]
        refine wpAnyH_take (i := 5) (oi := { dst := some 73, op := _, type := _, pos := _, after := _, guard := _ }) (v := .int .i64 (p : Int)) rfl (by kernel_rfl) (by kernel_rfl) (by kernel_rfl) (fun _ _ _ h => h) (Or.inl ⟨by rfl, fun W hW => ?_⟩) hS ?_
        · (have hcell := cell_later hW Z1.out; go_simp)
        try simp only [Act.put, List.setIfInBounds_toArray, List.set_cons_zero, List.set_cons_succ]
        refine wpAnyH_take (i := 6) (oi := { dst := some 74, op := _, type := _, pos := _, after := _, guard := _ }) (v := .slice (some ad) L c14) rfl (by kernel_rfl) (by kernel_rfl) (by kernel_rfl) (fun _ _ _ h => h) (Or.inl ⟨by rfl, fun W hW => ?_⟩) hS ?_
        · (go_simp)
        try simp only [Act.put, List.setIfInBounds_toArray, List.set_cons_zero, List.set_cons_succ]
        refine wpAnyH_take (i := 7) (oi := { dst := some 75, op := _, type := _, pos := _, after := _, guard := _ }) (v := .int .i64 (i : Int)) rfl (by kernel_rfl) (by kernel_rfl) (by kernel_rfl) (fun _ _ _ h => h) (Or.inl ⟨by rfl, fun W hW => ?_⟩) hS ?_
        · (go_simp)
        try simp only [Act.put, List.setIfInBounds_toArray, List.set_cons_zero, List.set_cons_succ]
        refine wpAnyH_take (i := 8) (oi := { dst := some 76, op := _, type := _, pos := _, after := _, guard := _ }) (v := .pointer (some (ad.add (i * 3)))) rfl (by kernel_rfl) (by kernel_rfl) (by kernel_rfl) (fun _ _ _ h => h) (Or.inl ⟨by rfl, fun W hW => ?_⟩) hS ?_
        · (go_simp)
        try simp only [Act.put, List.setIfInBounds_toArray, List.set_cons_zero, List.set_cons_succ]
        refine wpAnyH_take (i := 9) (oi := { dst := some 77, op := _, type := _, pos := _, after := _, guard := _ }) (v := .pointer (some ⟨(ad.add (i * 3)).block, (ad.add (i * 3)).off + 2, none⟩)) rfl (by kernel_rfl) (by kernel_rfl) (by kernel_rfl) (fun _ _ _ h => h) (Or.inl ⟨by rfl, fun W hW => ?_⟩) hS ?_
        · (go_simp)
        try simp only [Act.put, List.setIfInBounds_toArray, List.set_cons_zero, List.set_cons_succ]
        refine wpAnyH_take (i := 10) (oi := { dst := some 78, op := _, type := _, pos := _, after := _, guard := _ }) (v := .int .i64 (e : Int)) rfl (by kernel_rfl) (by kernel_rfl) (by kernel_rfl) (fun _ _ _ h => h) (Or.inl ⟨by rfl, fun W hW => ?_⟩) hS ?_
        · (have hcell := cell_later hW Z2.out; go_simp)
        try simp only [Act.put, List.setIfInBounds_toArray, List.set_cons_zero, List.set_cons_succ]
        refine wpAnyH_take (i := 11) (oi := { dst := some 79, op := _, type := _, pos := _, after := _, guard := _ }) (v := .slice Am (e - p) (ca - p)) rfl (by kernel_rfl) (by kernel_rfl) (by kernel_rfl) (fun _ _ _ h => h) (Or.inl ⟨by rfl, fun W hW => ?_⟩) hS ?_
        · (go_simp)
        try simp only [Act.put, List.setIfInBounds_toArray, List.set_cons_zero, List.set_cons_succ]
        refine wpAnyH_take (i := 12) (oi := { dst := some 80, op := _, type := _, pos := _, after := _, guard := _ }) (v := .slice B nb cb) rfl (by kernel_rfl) (by kernel_rfl) (by kernel_rfl) (fun _ _ _ h => h) (Or.inl ⟨by rfl, fun W hW => ?_⟩) hS ?_
        · (go_simp)
        try simp only [Act.put, List.setIfInBounds_toArray, List.set_cons_zero, List.set_cons_succ]
        refine wpAnyH_take (i := 13) (oi := { dst := some 81, op := _, type := _, pos := _, after := _, guard := _ }) (v := .slice (some bd) M c15) rfl (by kernel_rfl) (by kernel_rfl) (by kernel_rfl) (fun _ _ _ h => h) (Or.inl ⟨by rfl, fun W hW => ?_⟩) hS ?_
        · (go_simp)
        try simp only [Act.put, List.setIfInBounds_toArray, List.set_cons_zero, List.set_cons_succ]
        refine wpAnyH_take (i := 14) (oi := { dst := some 82, op := _, type := _, pos := _, after := _, guard := _ }) (v := .int .i64 (i : Int)) rfl (by kernel_rfl) (by kernel_rfl) (by kernel_rfl) (fun _ _ _ h => h) (Or.inl ⟨by rfl, fun W hW => ?_⟩) hS ?_
        · (go_simp)
        try simp only [Act.put, List.setIfInBounds_toArray, List.set_cons_zero, List.set_cons_succ]
        refine wpAnyH_take (i := 15) (oi := { dst := some 83, op := _, type := _, pos := _, after := _, guard := _ }) (v := .pointer (some (bd.add (i * 3)))) rfl (by kernel_rfl) (by kernel_rfl) (by kernel_rfl) (fun _ _ _ h => h) (Or.inl ⟨by rfl, fun W hW => ?_⟩) hS ?_
        · (go_simp)
        try simp only [Act.put, List.setIfInBounds_toArray, List.set_cons_zero, List.set_cons_succ]
        refine wpAnyH_take (i := 16) (oi := { dst := some 84, op := _, type := _, pos := _, after := _, guard := _ }) (v := .pointer (some ⟨(bd.add (i * 3)).block, (bd.add (i * 3)).off + 1, none⟩)) rfl (by kernel_rfl) (by kernel_rfl) (by kernel_rfl) (fun _ _ _ h => h) (Or.inl ⟨by rfl, fun W hW => ?_⟩) hS ?_
        · (go_simp)
        try simp only [Act.put, List.setIfInBounds_toArray, List.set_cons_zero, List.set_cons_succ]
        refine wpAnyH_take (i := 17) (oi := { dst := some 85, op := _, type := _, pos := _, after := _, guard := _ }) (v := .int .i64 (q : Int)) rfl (by kernel_rfl) (by kernel_rfl) (by kernel_rfl) (fun _ _ _ h => h) (Or.inl ⟨by rfl, fun W hW => ?_⟩) hS ?_
        · (have hcell := cell_later hW Y1.out; go_simp)
        try simp only [Act.put, List.setIfInBounds_toArray, List.set_cons_zero, List.set_cons_succ]
        refine wpAnyH_take (i := 18) (oi := { dst := some 86, op := _, type := _, pos := _, after := _, guard := _ }) (v := .slice (some bd) M c15) rfl (by kernel_rfl) (by kernel_rfl) (by kernel_rfl) (fun _ _ _ h => h) (Or.inl ⟨by rfl, fun W hW => ?_⟩) hS ?_
        · (go_simp)
        try simp only [Act.put, List.setIfInBounds_toArray, List.set_cons_zero, List.set_cons_succ]
        refine wpAnyH_take (i := 19) (oi := { dst := some 87, op := _, type := _, pos := _, after := _, guard := _ }) (v := .int .i64 (i : Int)) rfl (by kernel_rfl) (by kernel_rfl) (by kernel_rfl) (fun _ _ _ h => h) (Or.inl ⟨by rfl, fun W hW => ?_⟩) hS ?_
        · (go_simp)
        try simp only [Act.put, List.setIfInBounds_toArray, List.set_cons_zero, List.set_cons_succ]
        refine wpAnyH_take (i := 20) (oi := { dst := some 88, op := _, type := _, pos := _, after := _, guard := _ }) (v := .pointer (some (bd.add (i * 3)))) rfl (by kernel_rfl) (by kernel_rfl) (by kernel_rfl) (fun _ _ _ h => h) (Or.inl ⟨by rfl, fun W hW => ?_⟩) hS ?_
        · (go_simp)
        try simp only [Act.put, List.setIfInBounds_toArray, List.set_cons_zero, List.set_cons_succ]
        refine wpAnyH_take (i := 21) (oi := { dst := some 89, op := _, type := _, pos := _, after := _, guard := _ }) (v := .pointer (some ⟨(bd.add (i * 3)).block, (bd.add (i * 3)).off + 2, none⟩)) rfl (by kernel_rfl) (by kernel_rfl) (by kernel_rfl) (fun _ _ _ h => h) (Or.inl ⟨by rfl, fun W hW => ?_⟩) hS ?_
        · (go_simp)
        try simp only [Act.put, List.setIfInBounds_toArray, List.set_cons_zero, List.set_cons_succ]
        refine wpAnyH_take (i := 22) (oi := { dst := some 90, op := _, type := _, pos := _, after := _, guard := _ }) (v := .int .i64 (f : Int)) rfl (by kernel_rfl) (by kernel_rfl) (by kernel_rfl) (fun _ _ _ h => h) (Or.inl ⟨by rfl, fun W hW => ?_⟩) hS ?_
        · (have hcell := cell_later hW Y2.out; go_simp)
        try simp only [Act.put, List.setIfInBounds_toArray, List.set_cons_zero, List.set_cons_succ]
        refine wpAnyH_take (i := 23) (oi := { dst := some 91, op := _, type := _, pos := _, after := _, guard := _ }) (v := .slice Bm (f - q) (cb - q)) rfl (by kernel_rfl) (by kernel_rfl) (by kernel_rfl) (fun _ _ _ h => h) (Or.inl ⟨by rfl, fun W hW => ?_⟩) hS ?_
        · (go_simp)
        try simp only [Act.put, List.setIfInBounds_toArray, List.set_cons_zero, List.set_cons_succ]
        refine wpAnyH_ready (rs := [24]) (by kernel_rfl) (by simp) ?_
        refine AllReadyH.cons (o := { dst := some 92, op := _, type := _, pos := _, after := _, guard := _ }) rfl (fun K hK => ?_) AllReadyH.nil
        go_simp
        have hBW := below_then H15.out H15.out.size hS
        (go_at_call 52)
        refine (SameR _ (HG.out.below hBW) Am Bm (e - p) (ca - p) (f - q) (cb - q) _ _ (M2.out _ (Kd.C_below HA.out hBW)) HEA.out m3 (M5.out _ (Kd.C_below HB.out hBW)) HFB.out m6 HSA.out HSB.out hep hfq true HPQ.out).mono ?_
        rintro E w16 ⟨rfl, p1⟩
        have H16 := Aside0.mk (below_then hS hS.size p1)
        clear p1 hBW
        go_wp2_with fail
        refine hK.out _ _ H16.out (fun hS2 => ?_)
        clear hK K hS
        have hS := hS2
        clear hS2
        try simp only [Act.put, List.setIfInBounds_toArray, List.set_cons_zero, List.set_cons_succ]
        refine wpAnyH_take (i := 25) (oi := { dst := some 93, op := _, type := _, pos := _, after := _, guard := _ }) (v := .bool false) rfl (by kernel_rfl) (by kernel_rfl) (by kernel_rfl) (fun _ _ _ h => h) (Or.inl ⟨by rfl, fun W hW => ?_⟩) hS ?_
        · (go_simp)
        try simp only [Act.put, List.setIfInBounds_toArray, List.set_cons_zero, List.set_cons_succ]
        refine wpAnyH_done (by kernel_rfl) ?_ _
        clear m1 m4
        go_wp2
        go_roundw
        case rel => exact ⟨i + 1, by go_num, by omega, H16⟩
        case measure => simp [intOf]; omega
    · have hd : decide ((i : Int) < (L : Int)) = false := decide_eq_false (by omega)
      have hd2 : decide (i < L) = false := decide_eq_false hlt
      go_wp2
      go_ret
      exact ⟨rfl, below_then H15.out H15.out.size HR.out⟩
end Go.Proofs.YtiggjbclbdikmaaDoor.Lss
namespace Go.Proofs.YtiggjbclbdikmaaDoor.X
set_option linter.unusedVariables false
set_option linter.unusedSimpArgs false
open Go.RowKit Go.Proofs.YtiggjbclbdikmaaDoorW.PrintWords Go.Proofs.YtiggjbclbdikmaaDoor.Vp0
def tremalaw04_SegSame.f (l m : List Int) : Option Bool := if (bytesB l = true ∧ l.length ≤ 1048576) ∧ bytesB m = true ∧ m.length ≤ 1048576 then some true else none
theorem tremalaw04_SegSame.calls (A0 : Option Addr) (c0 : Nat) (l : List Int) (A1 : Option Addr) (c1 : Nat) (m : List Int) (r : Bool) (w : World) (hr0 : Kd.C (Kd.int .u8) w A0 l.length l) (hc0 : l.length ≤ c0) (hr1 : Kd.C (Kd.int .u8) w A1 m.length m) (hc1 : m.length ≤ c1) (h : tremalaw04_SegSame.f l m = some r) (hG0 : Va.G w) :
  Calls Tryd.prog 15 #[.slice A0 l.length c0, .slice A1 m.length c1] w fun e w' => e = .returned (.bool r) ∧ Below w.heap.size w w' := by
  unfold tremalaw04_SegSame.f at h
  split at h
  · rename_i hh
    cases Option.some.inj h
    exact Lss.same w hG0 A0 A1 l.length m.length c0 c1 l m hr0 rfl hc0 (bytesB_of hh.1.1) hh.1.2 hr1 rfl hc1 (bytesB_of hh.2.1) hh.2.2
  · cases h
theorem tremalaw04_SegSame.pure (l : List Int) (hwf : ∀ x ∈ l, (Lit.int .u8 x).wf = true) (hl : l.length ≤ 1048576) (m : List Int) (hwm : ∀ x ∈ m, (Lit.int .u8 x).wf = true) (hm : m.length ≤ 1048576) : tremalaw04_SegSame.f l m = some true := by
  unfold tremalaw04_SegSame.f
  rw [if_pos ⟨⟨Sgr.bytesB_mk (Ot.wf_bytes hwf), hl⟩, Sgr.bytesB_mk (Ot.wf_bytes hwm), hm⟩]
end Go.Proofs.YtiggjbclbdikmaaDoor.X
namespace Go.Proofs.YtiggjbclbdikmaaDoor.Od
set_option linter.unusedVariables false
set_option linter.unusedSimpArgs false
open Go.RowKit Go.Proofs.YtiggjbclbdikmaaDoorW.PrintWords Go.Proofs.YtiggjbclbdikmaaDoor.Hp Go.ChangeShapes Go.WideShapes
def Opens {α : Type} (P : Program) (t : TypeId) (d : Kd α) (wf : α → Prop) (bulk : α → Nat) : Prop :=
  ∀ (H : Type) (enc : TypeId × Value → H) (w : World) (base : Nat) (spare : Nat → Bool) (held : Bool) (fuel : Nat) (cs : List Value) (x : DataW H × List MemPlace),
    DataW.trod enc P w base spare held fuel t cs = some x → ∃ a, d.K w a cs ∧ wf a ∧ bulk a ≤ Rows.uptoBulk x.1
def sumB {α : Type} (bulk : α → Nat) : List α → Nat
  | [] => 0
  | a :: l => bulk a + sumB bulk l
theorem sumB_len {α : Type} {bulk : α → Nat} (h1 : ∀ a, 1 ≤ bulk a) (l : List α) : l.length ≤ sumB bulk l := by
  induction l with
  | nil => simp [sumB]
  | cons x l ih => simp only [sumB, List.length_cons]; have := h1 x; omega
theorem bulkAll_append {H : Type} (l r : List (DataW H)) : Rows.uptoBulkAll (l ++ r) = Rows.uptoBulkAll l + Rows.uptoBulkAll r := by
  induction l with
  | nil => simp [Rows.uptoBulkAll]
  | cons x l ih => simp only [List.cons_append, Rows.uptoBulkAll, ih]; omega
section
variable {P : Program}
theorem opens_int {t : TypeId} {k : IntKind} (ht : P.underlying t = some (.int k)) : Opens P t (Kd.int k) (fun n => (Lit.int k n).wf = true) (fun _ => 1) := by
  intro H enc w base spare held fuel cs x h
  obtain ⟨n, rfl, rfl, hw⟩ := DataW.trod_int ht h
  exact ⟨n, rfl, hw, by simp [Rows.uptoBulk]⟩
theorem slice_list {α : Type} {d : Kd α} {wf : α → Prop} {bulk : α → Nat} {e : TypeId} {H : Type} {enc : TypeId × Value → H} {w : World} {base : Nat} {spare : Nat → Bool} {held : Bool} (ho : Opens P e d wf bulk) (hC : P.cellsOf e = d.sz) {a : Addr} {m n : Nat} {D : Nat → DataW H} {Pl : Nat → List MemPlace}
    (hx : ∀ i, i < m → ∃ cs', w.cells? base (a.add (i * P.cellsOf e)) (P.cellsOf e) = some cs' ∧ DataW.trod enc P w base spare held n e cs' = some (D i, Pl i)) (len : Nat) (hl : len ≤ m) (hM : len ≤ 9223372036854775807) :
    ∃ xs : List α, xs.length = len ∧ d.C w (some a) len xs ∧ (∀ x, x ∈ xs → wf x) ∧ sumB bulk xs ≤ Rows.uptoBulkAll ((List.range len).map D) := by
  have key : ∀ k, k ≤ len → ∃ xs : List α, xs.length = k ∧ (∀ j p, xs[j]? = some p → ∃ c, c.length = d.sz ∧ d.K w p c ∧ ∀ i u, c[i]? = some u → w.cell? (a.add (j * d.sz + i)) = some u) ∧ (∀ x, x ∈ xs → wf x) ∧ sumB bulk xs ≤ Rows.uptoBulkAll ((List.range k).map D) := by
    intro k
    induction k with
    | zero => exact fun _ => ⟨[], rfl, by simp, by simp, by simp [sumB]⟩
    | succ k ih =>
      intro hk
      obtain ⟨xs, h1, h2, h3, h4⟩ := ih (by omega)
      obtain ⟨cs', hc, ht⟩ := hx k (by omega)
      obtain ⟨p, hK, hw, hb⟩ := ho H enc w base spare held n cs' _ ht
      obtain ⟨_, hcl, hcell⟩ := World.cells?_some hc
      refine ⟨xs ++ [p], by simp [h1], ?_, ?_, ?_⟩
      · intro j q hq
        rw [List.getElem?_append] at hq
        split at hq
        · exact h2 j q hq
        · rename_i hge
          rcases Nat.lt_or_ge (j - xs.length) 1 with h5 | h5
          · have hj : j = k := by omega
            subst hj
            rw [h1, Nat.sub_self] at hq
            simp at hq
            subst hq
            refine ⟨cs', by rw [hcl, hC], hK, fun i u hu => ?_⟩
            have hi : i < P.cellsOf e := by rw [← hcl]; exact (List.getElem?_eq_some_iff.1 hu).1
            have := hcell i hi
            rw [Go.Deep.add_add, hC] at this
            rw [this, hu]
          · rw [List.getElem?_eq_none (by simpa using h5)] at hq; cases hq
      · intro x hx
        rcases List.mem_append.1 hx with hx | hx
        · exact h3 x hx
        · rw [List.mem_singleton.1 hx]; exact hw
      · have e2 : sumB bulk (xs ++ [p]) = sumB bulk xs + bulk p := by
          clear h1 h2 h3 h4
          induction xs with
          | nil => simp [sumB]
          | cons y ys ih2 => simp only [List.cons_append, sumB, ih2]; omega
        rw [e2, List.range_succ, List.map_append, bulkAll_append]
        simp only [List.map_cons, List.map_nil, Rows.uptoBulkAll]
        have hb2 : bulk p ≤ Rows.uptoBulk (D k) := hb
        omega
  obtain ⟨xs, h1, h2, h3, h4⟩ := key len (Nat.le_refl _)
  exact ⟨xs, h1, ⟨h1, hM, fun _ => ⟨a, rfl, h2⟩⟩, h3, h4⟩
theorem arg_slice {α : Type} {d : Kd α} {wf : α → Prop} {bulk : α → Nat} {t e : TypeId} (ht : P.underlying t = some (.slice e)) (hC : P.cellsOf e = d.sz) (ho : Opens P e d wf bulk)
    {H : Type} {enc : TypeId × Value → H} {w : World} {base : Nat} {spare : Nat → Bool} {held : Bool} {v : Value} {data : DataW H} {ps : List MemPlace} {r : Reach} {b0 : Nat} (hv : Value.okWide P w r b0 t v) (h : DataW.Trod enc P w base spare held t v data ps) :
    ∃ A xs c, v = .slice A xs.length c ∧ xs.length ≤ c ∧ d.C w A xs.length xs ∧ (∀ x, x ∈ xs → wf x) ∧ sumB bulk xs + 1 ≤ Rows.uptoBulk data ∧
      (∀ (ts : List TypeId) (ds : List (DataW H)) (j B : Nat), (DataW.weightsEach P ts ds).all (· ≤ reachBytes) = true → ts[j]? = some t → ds[j]? = some data → P.bytesOf e = B → xs.length * B ≤ 140737488351232) := by
  obtain ⟨a0, len0, cap0, rfl⟩ := okWide_slice ht hv
  obtain ⟨fuel, hf⟩ := h
  rcases Go.Deep.open_slice ht hf with ⟨hcs, hx⟩ | ⟨a, len, cap, m, n, D, Pl, hcs, hb, hl, hm, hmm, hx, hi⟩
  · simp [Value.cells] at hcs
    obtain ⟨rfl, rfl, rfl⟩ := hcs
    obtain ⟨rfl, rfl⟩ := Prod.mk.inj hx
    exact ⟨none, [], 0, rfl, Nat.le_refl _, Kd.C_nil d w, by simp, by simp [sumB, Rows.uptoBulk], by simp⟩
  · simp [Value.cells] at hcs
    obtain ⟨rfl, rfl, rfl⟩ := hcs
    obtain ⟨rfl, rfl⟩ := Prod.mk.inj hx
    obtain ⟨xs, h1, h2, h3, h4⟩ := slice_list ho hC hi len0 (by rw [hmm]; split <;> omega) (by simp only [maxLen] at hm; omega)
    subst h1
    refine ⟨some a, xs, cap0, rfl, hl, h2, h3, by simp only [Rows.uptoBulk]; omega, ?_⟩
    intro ts ds j B hsz htj hdj hB
    have z := sized_slice hsz htj hdj ht
    rw [hB] at z
    have hr : reachBytes = 140737488351232 := by decide
    simp only [List.length_map, List.length_range] at z
    rw [hr] at z
    exact Nat.le_trans (Nat.mul_le_mul_right _ (by omega)) z
end
end Go.Proofs.YtiggjbclbdikmaaDoor.Od
