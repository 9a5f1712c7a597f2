/-
  Several texts of this claim in one: what its law's proof uses.
-/
import Derived.Test.YthffpkdadffinaaDoorMWK18
import Derived.Test.YthffpkdadffinaaDoorMWK17
import Derived.BigQuiet
import Derived.BigRegion
import Derived.Deep.RegionHeld
import Derived.Test.YthffpkdadffinaaDoorRows
import Derived.Test.YthffpkdadffinaaDoorMWK19
import Derived.Test.YthffpkdadffinaaDoorTie
import Derived.Test.YthffpkdadffinaaDoorCards
import Derived.WalkKit
import Derived.ProofKit
import Derived.OpenShut
import Derived.ShutString
import Derived.ChangeOld
import Derived.Below
import Derived.SizedLaws
import Derived.JoinedCond
import Derived.SevenTiedAt
import Derived.LaidMore
import Derived.Stop.Joined
import Derived.Deep.DeepHandedRow
import Derived.Deep.DeepWitnessRowRef
namespace Go.Proofs.YthffpkdadffinaaDoor.Wsm
set_option linter.unusedVariables false
set_option linter.unusedSimpArgs false
open Go.Proofs.YthffpkdadffinaaDoor.Ux (Bytes full one1 one1_width)
open Go.Proofs.YthffpkdadffinaaDoor.Ot (rns)
open Go.Proofs.YthffpkdadffinaaDoor.Na (ins ordR ordL)
open Go.Proofs.YthffpkdadffinaaDoor.En (enc enc1 encv fixr vld enc_append enc_len encv_len)
open Go.RowKit YthffpkdadffinaaDoorW.PrintWords Ev0 X Va Vd Oa Ob Vp0 Sga Sgb Sgd Sgp Sgq Sgt Sgv Sgw Wa Wb Wd Wg
theorem encl_ins (x : Int) : ∀ r : List Int, (enc (ins x r)).length = (enc (x :: r)).length
  | [] => rfl
  | y :: r => by
    have ih := encl_ins x r; rw [ins]; split
    · simp only [enc, List.length_append] at ih ⊢; omega
    · rfl
theorem encl_fold : ∀ (l acc : List Int), (enc (l.foldl (fun acc x => ins x acc) acc)).length = (enc l).length + (enc acc).length
  | [], acc => by simp [enc]
  | x :: l, acc => by
    rw [List.foldl_cons, encl_fold l, encl_ins]; simp only [enc, List.length_append]; omega
theorem encl_rev : ∀ l : List Int, (enc l.reverse).length = (enc l).length
  | [] => rfl
  | x :: l => by
    rw [List.reverse_cons, enc_append, List.length_append, encl_rev l]; simp only [enc, List.length_append, List.length_nil]; omega
theorem encl_nrm (l : List Int) : (enc (nrm l)).length = (enc (flat l)).length := by
  unfold nrm ordL ordR; rw [encl_rev, encl_fold]; simp [enc]
theorem decU_ascii : ∀ n : Fin 128, decU (n.1 : Int) = [(n.1 : Int)] := by decide +kernel
theorem decU_bad : decU 65533 = [65533] := by decide +kernel
theorem dec_len6 (c : Int) (t : List Int) (hc : 0 ≤ c ∧ c ≤ 255) (hB : Bytes t) : (enc (decU (one1 c t).1)).length ≤ 6 * (one1 c t).2.1.toNat := by
  have hw := one1_width c t; obtain ⟨h1, h2⟩ := Bkg.one1_good c t hc hB; obtain ⟨r, hr⟩ : ∃ r, r = (one1 c t).1 := ⟨_, rfl⟩; obtain ⟨n, hn⟩ : ∃ n, n = (one1 c t).2.1.toNat := ⟨_, rfl⟩; rw [← hr, ← hn] at h2; rw [← hr] at h1 ⊢; rw [← hn]; (have hn1 : 1 ≤ n := by omega); (have hn2 : n ≤ 1 + t.length := by omega); by_cases hb : r = 65533
  · rw [hb, decU_bad]; (have : (enc [65533]).length = 3 := by decide); omega
  · have h3 := h2 hb; (have h4 : (encv r).length = n := by rw [h3, List.length_take, List.length_cons]; omega); have hv := h1; simp only [vld, decide_eq_true_eq] at hv; by_cases ha : r < 128
    · have e := decU_ascii ⟨r.toNat, by omega⟩; simp only at e; rw [show ((r.toNat : Nat) : Int) = r by omega] at e; rw [e]; simp only [enc, enc1, fixr, h1, if_true, List.append_nil]; omega
    · have h5 : 2 ≤ (encv r).length := by
        unfold encv; rw [if_neg ha]; split
        · simp
        · split <;> simp
      have hr3 := Oa.dec_len3 r (by constructor <;> omega); have h6 := (enc_len (decU r)).2; omega
theorem flat_len6 : ∀ (N : Nat) (b : List Int), b.length ≤ N → Bytes b → (enc (flat (rns b))).length ≤ 6 * b.length
  | _, [], _, _ => by rw [rns_nil]; simp [flat, enc]
  | 0, c :: t, h, _ => by simp at h
  | N + 1, c :: t, h, hB => by
    have hd := Ux.drop_lt c t; have ih := flat_len6 N ((c :: t).drop (one1 c t).2.1.toNat) (by simp only [List.length_cons] at h; omega) (fun x hx => hB x (List.mem_of_mem_drop hx)); have h9 := dec_len6 c t (hB c (List.mem_cons_self ..)) (fun x hx => hB x (List.mem_cons_of_mem _ hx)); have hw := one1_width c t; rw [rns_cons, flat_cons, enc_append, List.length_append]; rw [List.length_drop] at ih; simp only [List.length_cons] at ih ⊢; omega
theorem nfd_len6 (a : List Int) (ha : Bytes a) : (nfd a).length ≤ 6 * a.length := by
  unfold nfd; rw [encl_nrm]; exact flat_len6 _ a (Nat.le_refl _) ha
theorem txt_nfd9 (a : List Int) (ha : Bytes a) : txt (rns (nfd a)) = txt (rns a) := (key _ _ (nfd_byte a) ha).1 (nfd_cut a ha)
theorem good_alike (lim : Int) : ∀ (l m : List SG), l.map (·.f0) = m.map (·.f0) → (goodS lim l).2 = (goodS lim m).2
  | [], [], _ => rfl
  | [], _ :: _, h => by simp at h
  | _ :: _, [], h => by simp at h
  | s :: l, r :: m, h => by
    simp only [List.map_cons, List.cons.injEq] at h; have ih := good_alike lim l m h.2; rw [goodS, goodS, h.1]; split
    · rfl
    · exact ih
def RawK (b : List Int) (x : SW) : Prop := ∃ s e : Nat, x.f1.f2 = s ∧ x.f1.f3 = e ∧ s < e ∧ e ≤ b.length ∧ x.f0 = keyS ((b.take e).drop s)
theorem rawK_of {b : List Int} (hB : Bytes b) {l : List SG} (hF : FillO b 0 false l) (p : Nat × Nat) (h1 : p.1 < p.2) (h2 : p.2 ≤ l.length) : RawK b (wordOf l p) := by
  obtain ⟨s, e, q1, q2, q3, q4, q5, -⟩ := keyR_raw hB hF p.1 p.2 h1 h2; have g1 : gAt l p.1 = l[p.1]'(by omega) := gAt_eq _; have g2 : gAt l (p.2 - 1) = l[p.2 - 1]'(by omega) := gAt_eq _; exact ⟨s, e, by simp only [wordOf, g1]; exact q1, by simp only [wordOf, g2]; exact q2, q3, q4, q5⟩
def Alk (a b : List Int) (L M : List SW) : Prop := M.length = L.length ∧ ∀ i (h : i < L.length) (h2 : i < M.length), L[i].f0 = M[i].f0 ∧ L[i].f1.f0 = M[i].f1.f0 ∧ L[i].f1.f1 = M[i].f1.f1 ∧ RawK a L[i] ∧ RawK b M[i]
theorem alk_of {a b : List Int} (hA : Bytes a) (hB : Bytes b) {l m : List SG} (hl : FillO a 0 false l) (hm : FillO b 0 false m) (h : l.map (·.f0) = m.map (·.f0)) : Alk a b (wordsF l) (wordsF m) := by
  have hA2 := runsT_apart (l.map (·.f0)); (have hlen : l.length = m.length := by have := congrArg List.length h; simpa using this); have e1 : wordsF l = (runsT (l.map (·.f0))).map (wordOf l) := rfl; (have e2 : wordsF m = (runsT (l.map (·.f0))).map (wordOf m) := by rw [h]; rfl); rw [e1, e2]; rw [List.length_map] at hA2; obtain ⟨P, hP⟩ : ∃ P, P = runsT (l.map (·.f0)) := ⟨_, rfl⟩; rw [← hP] at hA2 ⊢; refine ⟨by simp, fun i h1 h2 => ?_⟩; (have hiP : i < P.length := by rw [List.length_map] at h1; exact h1); have hp := Apart.mem hA2 P[i] (List.getElem_mem hiP); simp only [List.getElem_map]; refine ⟨?_, rfl, rfl, rawK_of hA hl _ hp.2.1 hp.2.2, rawK_of hB hm _ hp.2.1 (by omega)⟩; simp only [wordOf, h]
theorem wordsG (b : List Int) (hB : Bytes b) (hl : b.length ≤ 10000000) (hs : sizes ((cutS (full b)).map (·.f0)) ≤ 13000000) :
    words_Words.f b 64 = some (if (goodS 64 (cutS (full b))).2 = false then (wordsF (cutS (full b)), 0) else ([], 6)) := by
  (have e1 : seg_Split.f b 64 = some (splitF 64 b) := by unfold seg_Split.f; rw [if_pos ⟨Sgr.bytesB_mk hB, by omega⟩]); have e := split_cut 64 b hB (by omega) (by omega) (by omega); have hln := (Sgr.fsize b hB (by omega)).2; unfold words_Words.f; rw [e1, e]; simp only [Option.bind_some]
  cases hg : (goodS 64 (cutS (full b))).2 with
  | true => rfl
  | false =>
    rw [goodS_all 64 _ hg]; simp only [errOf, Bool.false_eq_true, if_false, if_true]; unfold words_Join.f; rw [if_pos ⟨hs, by omega⟩]
    rfl
theorem same_all (a b : List Int) (hA : Bytes a) (hB : Bytes b) (hla : a.length ≤ 1048576) (hlb : b.length ≤ 10000000) (h : txt (rns a) = txt (rns b)) :
    ∃ L M e, words_Words.f a 64 = some (L, e) ∧ words_Words.f b 64 = some (M, e) ∧ Alk a b L M ∧ L.length ≤ 13000000 := by
  have hsz : sizes ((cutS (full a)).map (·.f0)) ≤ 13000000 := by
    rw [Wt.cut_map, Wt.catB_len, cutTS_cat]; have := Wt.txt_sz a hA; omega
  (have ht : (cutS (full a)).map (·.f0) = (cutS (full b)).map (·.f0) := by rw [Wt.cut_map, Wt.cut_map]; exact (key a b hA hB).2 h); have ea := wordsG a hA (by omega) hsz; have eb := wordsG b hB hlb (by rw [← ht]; exact hsz); rw [← good_alike 64 _ _ ht] at eb; have hln := (Sgr.fsize a hA (by omega)).2; have hwl := Wt.wordsF_len (cutS (full a)); have hal := alk_of hA hB (fillO_all a) (fillO_all b) ht
  cases hg : (goodS 64 (cutS (full a))).2 with
  | true =>
    rw [hg] at ea eb; exact ⟨[], [], 6, ea, eb, ⟨rfl, fun i hi => absurd hi (Nat.not_lt_zero i)⟩, Nat.zero_le _⟩
  | false =>
    rw [hg] at ea eb; exact ⟨_, _, 0, ea, eb, hal, by omega⟩
end Go.Proofs.YthffpkdadffinaaDoor.Wsm
namespace Go.Proofs.YthffpkdadffinaaDoor.Lws
set_option linter.unusedVariables false
set_option linter.unusedSimpArgs false
open Go.Proofs.YthffpkdadffinaaDoor.Ux (Bytes full)
open Go.Proofs.YthffpkdadffinaaDoor.Ot (rns)
open Go.RowKit YthffpkdadffinaaDoorW.PrintWords Hp Fm X Va Oa Vp0 Sga Sgb Sgd Sgp Sgw Wa Wb Wd Wg Wj Wsm Lwk Sgy
theorem fit_len (b : List Int) (hB : Bytes b) (hl : b.length ≤ 10000000) : Fit b := by
  have h1 := Sgu.rns_len b; have h2 := nrm_len3 (rns b) (r32 b hB); have h3 := fl2_len (nrm (rns b)); exact ⟨hB, by omega, by omega, by omega⟩
theorem two_heap (W : World) (X Y : Obj) : ((W.alloc X).alloc Y).drew.heap[W.heap.size]? = some X ∧ ((W.alloc X).alloc Y).drew.heap[W.heap.size + 1]? = some Y ∧ Below W.heap.size W ((W.alloc X).alloc Y).drew :=
  have e1 : ((W.alloc X).alloc Y).drew.heap = (W.heap.push X).push Y := rfl
  ⟨by rw [e1, Array.getElem?_push_lt (by simp), Array.getElem_push_eq], by rw [e1, Array.getElem?_push, if_pos (by simp)], below_step (below_alloc (below_alloc (Below.refl _ _) X) Y) ((Drawn0.refl _).step 1).below⟩
def Eqv (a : List Int) (W : World) (A : Option Addr) (m d : Nat) (b : List Int) : Prop := KB.C W A m b ∧ m = b.length ∧ m ≤ d ∧ Bytes b ∧ m ≤ 10000000 ∧ txt (rns b) = txt (rns a)
set_option maxRecDepth 100000 in
set_option maxHeartbeats 16000000 in
theorem wordsSameP (w : World) (hG : G w) (A B : Option Addr) (n c m d : Nat) (a b : List Int) (hC : KB.C w A n a) (hn : n = a.length) (hc : n ≤ c) (hD : KB.C w B m b) (hm : m = b.length) (hd : m ≤ d) (hBa : Bytes a) (hBb : Bytes b) (hla : n ≤ 1048576) (hlb : m ≤ 1048576) :
    Calls Tryd.prog 9 #[.slice A n c, .slice B m d] w fun e w' => e = .returned (.bool true) ∧ Below w.heap.size w w' := by
  (have hla' : a.length ≤ 1048576 := by omega); (have hlb' : b.length ≤ 1048576 := by omega); obtain ⟨t, ht⟩ : ∃ t, t = txt (rns a) := ⟨_, rfl⟩; obtain ⟨u, hu⟩ : ∃ u, u = txt (rns b) := ⟨_, rfl⟩; have FTa := Aside0.mk (show ∀ W, Below w.heap.size w W → Calls Tryd.prog 34 #[.slice A n c] W fun e w' => e = .returned (.string t) ∧ Below w.heap.size w w' from fun W h => (TextP W A n c a (Kd.C_below hC h) hn hc (fit_small a hBa hla') t ht).mono fun _ _ p => ⟨p.1, below_then h h.size p.2⟩); have FTb := Aside0.mk (show ∀ W, Below w.heap.size w W → Calls Tryd.prog 34 #[.slice B m d] W fun e w' => e = .returned (.string u) ∧ Below w.heap.size w w' from fun W h => (TextP W B m d b (Kd.C_below hD h) hm hd (fit_small b hBb hlb') u hu).mono fun _ _ p => ⟨p.1, below_then h h.size p.2⟩); have HG := Aside0.mk hG; have HB := Aside0.mk (Below.refl w.heap.size w); have EB := Aside0.mk (show u = t → ∀ W, Below w.heap.size w W → Eqv a W B m d b from fun e W h => ⟨Kd.C_below hD h, hm, hd, hBb, by omega, by rw [← hu, e, ht]⟩); have hts : t.size ≤ 6300000 := by rw [ht, txt_nfd, str_size (nfd_byte a)]; have := nfd_len6 a hBa; omega
  have ET := Aside0.mk (show ∀ W, Eqv a (Lib.bytesWorld W 5 t) (some ⟨W.heap.size, 0, none⟩) t.size (grownCap W t.size 0 5) (nfd a) from fun W => by
    (have hb : bytesOf t = nfd a := by rw [ht, txt_nfd]; exact Ot.bytes_str _ (nfd_byte a)); have h := conv_ok W t (nfd a) hb (by omega)
    exact ⟨h.1, h.2.1, h.2.2, nfd_byte a, by omega, txt_nfd9 a hBa⟩)
  (have kb := fun W => print_bytes (P := Tryd.prog) 9 23 5 Tryd.underlying9 Tryd.underlying23 Tryd.underlying5 t W); have HBY := Aside0.mk (fun W : World => bytes_below (Below.refl W.heap.size W) (Nat.le_refl _) 5 t); have HC := Aside0.mk hC; have HN := Aside0.mk hn; have HBa := Aside0.mk hBa; have HTS := Aside0.mk hts; clear hC hn hD hm hBb hBa hG ht hu hla' hlb' hts; go_enter Tryd.func9, Tryd.ntmps9; go_upto_region 3 with (go_at_call 26; refine (Wf.wordsFixedP w HG.out).mono ?_; rintro E w2 ⟨rfl, p1⟩; have n0_ := Aside0.mk p1; clear HB p1; have HB := n0_; clear n0_); go_upto_if 18 with (go_at_call 34; go_must (first | (with_reducible refine (FTa.out _ HB.out).mono ?_) | (with_reducible refine (FTb.out _ HB.out).mono ?_)); rintro E w2 ⟨rfl, p1⟩; have n0_ := Aside0.mk p1; clear HB p1; have HB := n0_; clear n0_); go_cut [1] (fun vq wq => ∃ (Bq : Option Addr) (mq dq : Nat) (bq : List Int), vq = .slice Bq mq dq ∧ Aside0 (Eqv a wq Bq mq dq bq) ∧ Aside0 (Below w.heap.size w wq))
  case first =>
    go_wp2_with (go_at_call 34; go_must (first | (with_reducible refine (FTa.out _ HB.out).mono ?_) | (with_reducible refine (FTb.out _ HB.out).mono ?_)); rintro E w2 ⟨rfl, p1⟩; have n0_ := Aside0.mk p1; clear HB p1; have HB := n0_; clear n0_)
    · go_meet
      case rel => exact ⟨_, _, _, nfd a, rfl, ⟨ET.out _⟩, ⟨below_step HB.out (HBY.out _)⟩⟩
    · have e : u = t := by
        (have h : (!t.toList == u.toList) = false := by assumption); have h2 := eq_of_beq (by simpa using h : (t.toList == u.toList) = true); rw [Sgr.ba_data, Sgr.ba_data] at h2; exact (ByteArray.ext (Array.toList_inj.1 h2)).symm
      go_meet
      case rel => exact ⟨_, _, _, b, rfl, ⟨EB.out e _ HB.out⟩, HB⟩
  case rest =>
    obtain ⟨Bq, mq, dq, bq, rfl, HE, HBq⟩ := hcut; obtain ⟨W0, rfl⟩ : ∃ W0, W0 = wc := ⟨_, rfl⟩; obtain ⟨hEC, hEn, hEd, hEB, hEl, hEt⟩ := HE.out; clear HE FTa FTb EB ET kb HBY HTS; have hC0 := Kd.C_below HC.out HBq.out; have hG0 := HG.out.below HBq.out; have hn2 := HN.out; obtain ⟨L, M, er, hLa, hLb, hAl, hLl⟩ := same_all a bq HBa.out hEB (by omega) (by omega) hEt.symm
    have FWa := Aside0.mk (show ∀ W, Below W0.heap.size W0 W → Calls Tryd.prog 27 #[.slice A n c, .int .i64 64] W fun E w' => ∃ v, E = .returned (.tuple #[v, .int .i64 er]) ∧ kW.R TW w' W.heap.size (fun _ => True) v L ∧ Below W.heap.size W w' from fun W h => by
      have h2 := Kd.C_below hC0 h; rw [hn2] at h2 ⊢
      exact words_Words.calls A c a 64 L er W h2 (by omega) hLa (hG0.below h))
    have FWb := Aside0.mk (show ∀ W, Below W0.heap.size W0 W → Calls Tryd.prog 27 #[.slice Bq mq dq, .int .i64 64] W fun E w' => ∃ v, E = .returned (.tuple #[v, .int .i64 er]) ∧ kW.R TW w' W.heap.size (fun _ => True) v M ∧ Below W.heap.size W w' from fun W h => by
      have h2 := Kd.C_below hEC h; rw [hEn] at h2 ⊢
      exact words_Words.calls Bq dq bq 64 M er W h2 (by omega) hLb (hG0.below h))
    have KA := Aside0.mk (fun (W : World) (h : Below W0.heap.size W0 W) => And.intro (Kd.C_below hC0 h) (hG0.below h)); have KQ := Aside0.mk (fun (W : World) (h : Below W0.heap.size W0 W) => Kd.C_below hEC h); obtain ⟨p, hp⟩ : ∃ p, p = L.length := ⟨_, rfl⟩; have HL := Aside0.mk hp; have HM := Aside0.mk (show p = M.length by rw [hp]; exact hAl.1.symm); have HAL := Aside0.mk hAl.2; have HEN := Aside0.mk hEn; have HEB := Aside0.mk hEB; (have hpl : p ≤ 13000000 := by omega); clear hEC hEn hEB hEt hC0 hG0 hn2 hLa hLb hAl hLl hp HC HG HB; go_upto_region 6 with (go_at_call 27; go_must (refine (FWa.out W0 (Below.refl _ _)).mono ?_; rintro E w3 ⟨v, rfl, p0, p1⟩; obtain ⟨A3, c3, rfl, hc3, hC3⟩ := Kd.R_reads p0; have C3 := Aside0.mk hC3; have H3 := Aside0.mk p1; clear p0 p1 hC3; rw [← HL.out] at hc3 C3 ⊢)); go_upto_region 7 with (go_at_call 27; go_must (refine (FWb.out w3 H3.out).mono ?_; rintro E w4 ⟨v, rfl, p0, p1⟩; obtain ⟨A4, c4, rfl, hc4, hC4⟩ := Kd.R_reads p0; have C4 := Aside0.mk hC4; have C34 := Aside0.mk (Kd.C_below C3.out p1); have H4 := Aside0.mk (below_then H3.out H3.out.size p1); clear p0 p1 hC4 C3; rw [← HM.out] at hc4 C4 ⊢)); clear FWa FWb; go_wp2; go_loopw [44] (fun iv wr => ∃ i : Nat, i ≤ p ∧ iv = .int .i64 i ∧ Aside0 (Below w4.heap.size w4 wr)) (fun iv _ => p - (intOf iv).toNat)
    case atStart => exact ⟨0, Nat.zero_le _, rfl, ⟨Below.refl _ _⟩⟩
    case round =>
      obtain ⟨i, hi, rfl, HR⟩ := hrel; by_cases hlt : i < p
      · have hd : decide ((i : Int) < (p : Int)) = true := decide_eq_true (by omega); have hd' : decide (i < p) = true := decide_eq_true hlt; (have hil : i < L.length := by rw [← HL.out]; exact hlt); (have hjl : i < M.length := by rw [← HM.out]; exact hlt); obtain ⟨ad, rfl, z0, z1, z2, z3, z4⟩ := Wf.wd_at C34.out i hlt hil; obtain ⟨bd, rfl, y0, y1, y2, y3, y4⟩ := Wf.wd_at C4.out i hlt hjl; have hq := HAL.out i hil hjl; obtain ⟨x, hx⟩ : ∃ x, x = L[i] := ⟨_, rfl⟩; obtain ⟨y, hy⟩ : ∃ y, y = M[i] := ⟨_, rfl⟩; rw [← hx] at z0 z1 z2 z3 z4 hq; rw [← hy] at y0 y1 y2 y3 y4 hq; obtain ⟨ky, ⟨F, T', S1, E1⟩⟩ := x; obtain ⟨ky2, ⟨F2, T2, S2, E2⟩⟩ := y; obtain ⟨q0, q1, q2, ⟨s, e, q3, q4, q5, q6, q7⟩, ⟨f, g, q8, q9, q10, q11, q12⟩⟩ := hq; simp only at z0 z1 z2 z3 z4 y0 y1 y2 y3 y4 q0 q1 q2 q3 q4 q7 q8 q9 q12; subst q0 q1 q2 q3 q4 q8 q9; (have hn0 : (0 : Int) ≤ (i : Int) := by omega); (have hn1 : (i : Int) < (p : Int) := by omega); obtain ⟨Am, m1, m2, m3⟩ := midC A c a (by rw [← HN.out]; exact hc) s e (by omega) q6; obtain ⟨Bm, m4, m5, m6⟩ := midC Bq dq bq (by rw [← HEN.out]; exact hEd) f g (by omega) q11; rw [← HN.out] at m1 m2; rw [← HEN.out] at m4 m5; (have hsa : Bytes ((a.take e).drop s) := fun x hx => HBa.out x (List.mem_of_mem_take (List.mem_of_mem_drop hx))); (have hsb : Bytes ((bq.take g).drop f) := fun x hx => HEB.out x (List.mem_of_mem_take (List.mem_of_mem_drop hx))); have hla2 := HN.out; have hlb2 := HEN.out; (have hea : e - s = ((a.take e).drop s).length := by rw [List.length_drop, List.length_take]; omega); have hfb : g - f = ((bq.take g).drop f).length := by rw [List.length_drop, List.length_take]; omega
        have FKa := Aside0.mk (show ∀ W, Below W0.heap.size W0 W → Calls Tryd.prog 32 #[.slice Am (e - s) (c - s)] W fun E w' => E = .returned (.string ky) ∧ Below W.heap.size W w' from fun W h =>
          KeyP W (KA.out W h).2 Am (e - s) (c - s) _ (m2 _ (KA.out W h).1) hea m3 (fit_len _ hsa (by omega)) ky q7)
        have FKb := Aside0.mk (show ∀ W, Below W0.heap.size W0 W → Calls Tryd.prog 32 #[.slice Bm (g - f) (dq - f)] W fun E w' => E = .returned (.string ky) ∧ Below W.heap.size W w' from fun W h =>
          KeyP W (KA.out W h).2 Bm (g - f) (dq - f) _ (m5 _ (KQ.out W h)) hfb m6 (fit_len _ hsb (by omega)) ky q12)
        have M1 := Aside0.mk m1; have M4 := Aside0.mk m4; have z0 := cell_later HR.out z0; have z1 := cell_later HR.out z1; have z2 := cell_later HR.out z2; have z3 := cell_later HR.out z3; have z4 := cell_later HR.out z4; have y0 := cell_later HR.out y0; have y1 := cell_later HR.out y1; have y2 := cell_later HR.out y2; have y3 := cell_later HR.out y3; have y4 := cell_later HR.out y4; clear hx hy m1 m2 m4 m5 hsa hsb hea hfb q7 q12 hla2 hlb2 m3 m6; go_upto_region 12 with (fail); go_cut [10, 11] (fun v10 v11 wq => ∃ p1 q1 : Nat, v10 = .pointer (some ⟨p1, 0, none⟩) ∧ v11 = .pointer (some ⟨q1, 0, none⟩) ∧ Aside0 (wq.heap[p1]? = some (.cells #[.string ky, .int .i64 F, .int .i64 T', .int .i64 (s : Int), .int .i64 (e : Int)] TW (0, 0))) ∧ Aside0 (wq.heap[q1]? = some (.cells #[.string ky, .int .i64 F, .int .i64 T', .int .i64 (f : Int), .int .i64 (g : Int)] TW (0, 0))) ∧ Aside0 (Below w4.heap.size w4 wq))
        case first =>
          (have z0a : ∀ o, (wr.alloc o).cell? _ = some _ := fun o => (World.cell?_alloc_some _ _ _ (Option.isSome_iff_exists.2 ⟨_, z0⟩)).trans z0); (have z0b : ∀ o o', ((wr.alloc o).alloc o').cell? _ = some _ := fun o o' => (World.cell?_alloc_some _ _ _ (Option.isSome_iff_exists.2 ⟨_, z0a o⟩)).trans (z0a o)); (have z1a : ∀ o, (wr.alloc o).cell? _ = some _ := fun o => (World.cell?_alloc_some _ _ _ (Option.isSome_iff_exists.2 ⟨_, z1⟩)).trans z1); (have z1b : ∀ o o', ((wr.alloc o).alloc o').cell? _ = some _ := fun o o' => (World.cell?_alloc_some _ _ _ (Option.isSome_iff_exists.2 ⟨_, z1a o⟩)).trans (z1a o)); (have z2a : ∀ o, (wr.alloc o).cell? _ = some _ := fun o => (World.cell?_alloc_some _ _ _ (Option.isSome_iff_exists.2 ⟨_, z2⟩)).trans z2); (have z2b : ∀ o o', ((wr.alloc o).alloc o').cell? _ = some _ := fun o o' => (World.cell?_alloc_some _ _ _ (Option.isSome_iff_exists.2 ⟨_, z2a o⟩)).trans (z2a o)); (have z3a : ∀ o, (wr.alloc o).cell? _ = some _ := fun o => (World.cell?_alloc_some _ _ _ (Option.isSome_iff_exists.2 ⟨_, z3⟩)).trans z3); (have z3b : ∀ o o', ((wr.alloc o).alloc o').cell? _ = some _ := fun o o' => (World.cell?_alloc_some _ _ _ (Option.isSome_iff_exists.2 ⟨_, z3a o⟩)).trans (z3a o)); (have z4a : ∀ o, (wr.alloc o).cell? _ = some _ := fun o => (World.cell?_alloc_some _ _ _ (Option.isSome_iff_exists.2 ⟨_, z4⟩)).trans z4); (have z4b : ∀ o o', ((wr.alloc o).alloc o').cell? _ = some _ := fun o o' => (World.cell?_alloc_some _ _ _ (Option.isSome_iff_exists.2 ⟨_, z4a o⟩)).trans (z4a o)); (have y0a : ∀ o, (wr.alloc o).cell? _ = some _ := fun o => (World.cell?_alloc_some _ _ _ (Option.isSome_iff_exists.2 ⟨_, y0⟩)).trans y0); (have y0b : ∀ o o', ((wr.alloc o).alloc o').cell? _ = some _ := fun o o' => (World.cell?_alloc_some _ _ _ (Option.isSome_iff_exists.2 ⟨_, y0a o⟩)).trans (y0a o)); (have y1a : ∀ o, (wr.alloc o).cell? _ = some _ := fun o => (World.cell?_alloc_some _ _ _ (Option.isSome_iff_exists.2 ⟨_, y1⟩)).trans y1); (have y1b : ∀ o o', ((wr.alloc o).alloc o').cell? _ = some _ := fun o o' => (World.cell?_alloc_some _ _ _ (Option.isSome_iff_exists.2 ⟨_, y1a o⟩)).trans (y1a o)); (have y2a : ∀ o, (wr.alloc o).cell? _ = some _ := fun o => (World.cell?_alloc_some _ _ _ (Option.isSome_iff_exists.2 ⟨_, y2⟩)).trans y2); (have y2b : ∀ o o', ((wr.alloc o).alloc o').cell? _ = some _ := fun o o' => (World.cell?_alloc_some _ _ _ (Option.isSome_iff_exists.2 ⟨_, y2a o⟩)).trans (y2a o)); (have y3a : ∀ o, (wr.alloc o).cell? _ = some _ := fun o => (World.cell?_alloc_some _ _ _ (Option.isSome_iff_exists.2 ⟨_, y3⟩)).trans y3); (have y3b : ∀ o o', ((wr.alloc o).alloc o').cell? _ = some _ := fun o o' => (World.cell?_alloc_some _ _ _ (Option.isSome_iff_exists.2 ⟨_, y3a o⟩)).trans (y3a o)); (have y4a : ∀ o, (wr.alloc o).cell? _ = some _ := fun o => (World.cell?_alloc_some _ _ _ (Option.isSome_iff_exists.2 ⟨_, y4⟩)).trans y4); (have y4b : ∀ o o', ((wr.alloc o).alloc o').cell? _ = some _ := fun o o' => (World.cell?_alloc_some _ _ _ (Option.isSome_iff_exists.2 ⟨_, y4a o⟩)).trans (y4a o)); go_region
          all_goals (go_wp2; go_meet; case rel => first
            | exact ⟨_, _, rfl, rfl, ⟨(two_heap wr _ _).1⟩, ⟨(two_heap wr _ _).2.1⟩, ⟨below_step HR.out (two_heap wr _ _).2.2⟩⟩
            | exact ⟨_, _, rfl, rfl, ⟨(two_heap wr _ _).2.1⟩, ⟨(two_heap wr _ _).1⟩, ⟨below_step HR.out (two_heap wr _ _).2.2⟩⟩)
        case rest =>
          obtain ⟨p1, q1, rfl, rfl, BX, BY, H5⟩ := hcut; obtain ⟨W5, rfl⟩ : ∃ W5, W5 = wc := ⟨_, rfl⟩; have X0 := Aside0.mk (blk_cell BX.out 0); have X1 := Aside0.mk (blk_cell BX.out 1); have X2 := Aside0.mk (blk_cell BX.out 2); have X3 := Aside0.mk (blk_cell BX.out 3); have X4 := Aside0.mk (blk_cell BX.out 4); have Y0 := Aside0.mk (blk_cell BY.out 0); have Y1 := Aside0.mk (blk_cell BY.out 1); have Y2 := Aside0.mk (blk_cell BY.out 2); have Y3 := Aside0.mk (blk_cell BY.out 3); have Y4 := Aside0.mk (blk_cell BY.out 4); have HW5 := Aside0.mk (below_step H4.out H5.out); have hKK : (ky.toList == ky.toList) = true := beq_self_eq_true _; clear z0 z1 z2 z3 z4 y0 y1 y2 y3 y4 BX BY HR; go_upto_region 13 with (fail); refine wp_region_held_drew (S := fun W => Below W5.heap.size W5 W) (by kernel_rfl) (((Drawn0.refl W5).step 1).below) (fun hS => ?_); refine wpAnyH_take (i := 0) (oi := { dst := some 55, op := _, type := _, pos := _, after := _, guard := _ }) (v := .pointer (some ⟨p1, 0, none⟩)) rfl (by kernel_rfl) (by kernel_rfl) (by kernel_rfl) (fun _ _ _ h => h) (Or.inl ⟨by rfl, fun W hW => ?_⟩) hS ?_
          · (go_simp)
          (try simp only [Act.put, List.setIfInBounds_toArray, List.set_cons_zero, List.set_cons_succ]); refine wpAnyH_take (i := 1) (oi := { dst := some 56, op := _, type := _, pos := _, after := _, guard := _ }) (v := .string ky) rfl (by kernel_rfl) (by kernel_rfl) (by kernel_rfl) (fun _ _ _ h => h) (Or.inl ⟨by rfl, fun W hW => ?_⟩) hS ?_
          · (have hcell := cell_later hW X0.out; go_simp)
          (try simp only [Act.put, List.setIfInBounds_toArray, List.set_cons_zero, List.set_cons_succ]); refine wpAnyH_take (i := 2) (oi := { dst := some 57, op := _, type := _, pos := _, after := _, guard := _ }) (v := .pointer (some ⟨q1, 0, none⟩)) rfl (by kernel_rfl) (by kernel_rfl) (by kernel_rfl) (fun _ _ _ h => h) (Or.inl ⟨by rfl, fun W hW => ?_⟩) hS ?_
          · (go_simp)
          (try simp only [Act.put, List.setIfInBounds_toArray, List.set_cons_zero, List.set_cons_succ]); refine wpAnyH_take (i := 3) (oi := { dst := some 58, op := _, type := _, pos := _, after := _, guard := _ }) (v := .string ky) rfl (by kernel_rfl) (by kernel_rfl) (by kernel_rfl) (fun _ _ _ h => h) (Or.inl ⟨by rfl, fun W hW => ?_⟩) hS ?_
          · (have hcell := cell_later hW Y0.out; go_simp)
          (try simp only [Act.put, List.setIfInBounds_toArray, List.set_cons_zero, List.set_cons_succ]); refine wpAnyH_take (i := 4) (oi := { dst := some 59, op := _, type := _, pos := _, after := _, guard := _ }) (v := .bool false) rfl (by kernel_rfl) (by kernel_rfl) (by kernel_rfl) (fun _ _ _ h => h) (Or.inl ⟨by rfl, fun W hW => ?_⟩) hS ?_
          · (go_simp)
          (try simp only [Act.put, List.setIfInBounds_toArray, List.set_cons_zero, List.set_cons_succ]); refine wpAnyH_take (i := 5) (oi := { dst := some 60, op := _, type := _, pos := _, after := _, guard := _ }) (v := .bool false) rfl (by kernel_rfl) (by kernel_rfl) (by kernel_rfl) (fun _ _ _ h => h) (Or.inl ⟨by rfl, fun W hW => ?_⟩) hS ?_
          · (go_simp)
          (try simp only [Act.put, List.setIfInBounds_toArray, List.set_cons_zero, List.set_cons_succ]); refine wpAnyH_take (i := 6) (oi := { dst := some 61, op := _, type := _, pos := _, after := _, guard := _ }) (v := .pointer (some ⟨p1, 1, none⟩)) rfl (by kernel_rfl) (by kernel_rfl) (by kernel_rfl) (fun _ _ _ h => h) (Or.inl ⟨by rfl, fun W hW => ?_⟩) hS ?_
          · (go_simp)
          (try simp only [Act.put, List.setIfInBounds_toArray, List.set_cons_zero, List.set_cons_succ]); refine wpAnyH_take (i := 7) (oi := { dst := some 62, op := _, type := _, pos := _, after := _, guard := _ }) (v := .pointer (some ⟨p1, 1, none⟩)) rfl (by kernel_rfl) (by kernel_rfl) (by kernel_rfl) (fun _ _ _ h => h) (Or.inl ⟨by rfl, fun W hW => ?_⟩) hS ?_
          · (go_simp)
          (try simp only [Act.put, List.setIfInBounds_toArray, List.set_cons_zero, List.set_cons_succ]); refine wpAnyH_take (i := 8) (oi := { dst := some 63, op := _, type := _, pos := _, after := _, guard := _ }) (v := .int .i64 F) rfl (by kernel_rfl) (by kernel_rfl) (by kernel_rfl) (fun _ _ _ h => h) (Or.inl ⟨by rfl, fun W hW => ?_⟩) hS ?_
          · (have hcell := cell_later hW X1.out; go_simp)
          (try simp only [Act.put, List.setIfInBounds_toArray, List.set_cons_zero, List.set_cons_succ]); refine wpAnyH_take (i := 9) (oi := { dst := some 64, op := _, type := _, pos := _, after := _, guard := _ }) (v := .pointer (some ⟨q1, 1, none⟩)) rfl (by kernel_rfl) (by kernel_rfl) (by kernel_rfl) (fun _ _ _ h => h) (Or.inl ⟨by rfl, fun W hW => ?_⟩) hS ?_
          · (go_simp)
          (try simp only [Act.put, List.setIfInBounds_toArray, List.set_cons_zero, List.set_cons_succ]); refine wpAnyH_take (i := 10) (oi := { dst := some 65, op := _, type := _, pos := _, after := _, guard := _ }) (v := .pointer (some ⟨q1, 1, none⟩)) rfl (by kernel_rfl) (by kernel_rfl) (by kernel_rfl) (fun _ _ _ h => h) (Or.inl ⟨by rfl, fun W hW => ?_⟩) hS ?_
          · (go_simp)
          (try simp only [Act.put, List.setIfInBounds_toArray, List.set_cons_zero, List.set_cons_succ]); refine wpAnyH_take (i := 11) (oi := { dst := some 66, op := _, type := _, pos := _, after := _, guard := _ }) (v := .int .i64 F) rfl (by kernel_rfl) (by kernel_rfl) (by kernel_rfl) (fun _ _ _ h => h) (Or.inl ⟨by rfl, fun W hW => ?_⟩) hS ?_
          · (have hcell := cell_later hW Y1.out; go_simp)
          (try simp only [Act.put, List.setIfInBounds_toArray, List.set_cons_zero, List.set_cons_succ]); refine wpAnyH_take (i := 12) (oi := { dst := some 67, op := _, type := _, pos := _, after := _, guard := _ }) (v := .bool false) rfl (by kernel_rfl) (by kernel_rfl) (by kernel_rfl) (fun _ _ _ h => h) (Or.inl ⟨by rfl, fun W hW => ?_⟩) hS ?_
          · (go_simp)
          (try simp only [Act.put, List.setIfInBounds_toArray, List.set_cons_zero, List.set_cons_succ]); refine wpAnyH_take (i := 13) (oi := { dst := some 68, op := _, type := _, pos := _, after := _, guard := _ }) (v := .bool false) rfl (by kernel_rfl) (by kernel_rfl) (by kernel_rfl) (fun _ _ _ h => h) (Or.inl ⟨by rfl, fun W hW => ?_⟩) hS ?_
          · (go_simp)
          (try simp only [Act.put, List.setIfInBounds_toArray, List.set_cons_zero, List.set_cons_succ]); refine wpAnyH_take (i := 14) (oi := { dst := some 69, op := _, type := _, pos := _, after := _, guard := _ }) (v := .bool false) rfl (by kernel_rfl) (by kernel_rfl) (by kernel_rfl) (fun _ _ _ h => h) (Or.inl ⟨by rfl, fun W hW => ?_⟩) hS ?_
          · (go_simp)
          (try simp only [Act.put, List.setIfInBounds_toArray, List.set_cons_zero, List.set_cons_succ]); refine wpAnyH_take (i := 15) (oi := { dst := some 70, op := _, type := _, pos := _, after := _, guard := _ }) (v := .pointer (some ⟨p1, 1, none⟩)) rfl (by kernel_rfl) (by kernel_rfl) (by kernel_rfl) (fun _ _ _ h => h) (Or.inl ⟨by rfl, fun W hW => ?_⟩) hS ?_
          · (go_simp)
          (try simp only [Act.put, List.setIfInBounds_toArray, List.set_cons_zero, List.set_cons_succ]); refine wpAnyH_take (i := 16) (oi := { dst := some 71, op := _, type := _, pos := _, after := _, guard := _ }) (v := .pointer (some ⟨p1, 2, none⟩)) rfl (by kernel_rfl) (by kernel_rfl) (by kernel_rfl) (fun _ _ _ h => h) (Or.inl ⟨by rfl, fun W hW => ?_⟩) hS ?_
          · (go_simp)
          (try simp only [Act.put, List.setIfInBounds_toArray, List.set_cons_zero, List.set_cons_succ]); refine wpAnyH_take (i := 17) (oi := { dst := some 72, op := _, type := _, pos := _, after := _, guard := _ }) (v := .int .i64 T') rfl (by kernel_rfl) (by kernel_rfl) (by kernel_rfl) (fun _ _ _ h => h) (Or.inl ⟨by rfl, fun W hW => ?_⟩) hS ?_
          · (have hcell := cell_later hW X2.out; go_simp)
          (try simp only [Act.put, List.setIfInBounds_toArray, List.set_cons_zero, List.set_cons_succ]); refine wpAnyH_take (i := 18) (oi := { dst := some 73, op := _, type := _, pos := _, after := _, guard := _ }) (v := .pointer (some ⟨q1, 1, none⟩)) rfl (by kernel_rfl) (by kernel_rfl) (by kernel_rfl) (fun _ _ _ h => h) (Or.inl ⟨by rfl, fun W hW => ?_⟩) hS ?_
          · (go_simp)
          (try simp only [Act.put, List.setIfInBounds_toArray, List.set_cons_zero, List.set_cons_succ]); refine wpAnyH_take (i := 19) (oi := { dst := some 74, op := _, type := _, pos := _, after := _, guard := _ }) (v := .pointer (some ⟨q1, 2, none⟩)) rfl (by kernel_rfl) (by kernel_rfl) (by kernel_rfl) (fun _ _ _ h => h) (Or.inl ⟨by rfl, fun W hW => ?_⟩) hS ?_
          · (go_simp)
          (try simp only [Act.put, List.setIfInBounds_toArray, List.set_cons_zero, List.set_cons_succ]); refine wpAnyH_take (i := 20) (oi := { dst := some 75, op := _, type := _, pos := _, after := _, guard := _ }) (v := .int .i64 T') rfl (by kernel_rfl) (by kernel_rfl) (by kernel_rfl) (fun _ _ _ h => h) (Or.inl ⟨by rfl, fun W hW => ?_⟩) hS ?_
          · (have hcell := cell_later hW Y2.out; go_simp)
          (try simp only [Act.put, List.setIfInBounds_toArray, List.set_cons_zero, List.set_cons_succ]); refine wpAnyH_take (i := 21) (oi := { dst := some 76, op := _, type := _, pos := _, after := _, guard := _ }) (v := .bool false) rfl (by kernel_rfl) (by kernel_rfl) (by kernel_rfl) (fun _ _ _ h => h) (Or.inl ⟨by rfl, fun W hW => ?_⟩) hS ?_
          · (go_simp)
          (try simp only [Act.put, List.setIfInBounds_toArray, List.set_cons_zero, List.set_cons_succ]); refine wpAnyH_take (i := 22) (oi := { dst := some 77, op := _, type := _, pos := _, after := _, guard := _ }) (v := .bool false) rfl (by kernel_rfl) (by kernel_rfl) (by kernel_rfl) (fun _ _ _ h => h) (Or.inl ⟨by rfl, fun W hW => ?_⟩) hS ?_
          · (go_simp)
          (try simp only [Act.put, List.setIfInBounds_toArray, List.set_cons_zero, List.set_cons_succ]); refine wpAnyH_take (i := 23) (oi := { dst := some 78, op := _, type := _, pos := _, after := _, guard := _ }) (v := .bool false) rfl (by kernel_rfl) (by kernel_rfl) (by kernel_rfl) (fun _ _ _ h => h) (Or.inl ⟨by rfl, fun W hW => ?_⟩) hS ?_
          · (go_simp)
          (try simp only [Act.put, List.setIfInBounds_toArray, List.set_cons_zero, List.set_cons_succ]); refine wpAnyH_take (i := 24) (oi := { dst := some 79, op := _, type := _, pos := _, after := _, guard := _ }) (v := .slice A n c) rfl (by kernel_rfl) (by kernel_rfl) (by kernel_rfl) (fun _ _ _ h => h) (Or.inl ⟨by rfl, fun W hW => ?_⟩) hS ?_
          · (go_simp)
          (try simp only [Act.put, List.setIfInBounds_toArray, List.set_cons_zero, List.set_cons_succ]); refine wpAnyH_take (i := 25) (oi := { dst := some 80, op := _, type := _, pos := _, after := _, guard := _ }) (v := .pointer (some ⟨p1, 1, none⟩)) rfl (by kernel_rfl) (by kernel_rfl) (by kernel_rfl) (fun _ _ _ h => h) (Or.inl ⟨by rfl, fun W hW => ?_⟩) hS ?_
          · (go_simp)
          (try simp only [Act.put, List.setIfInBounds_toArray, List.set_cons_zero, List.set_cons_succ]); refine wpAnyH_take (i := 26) (oi := { dst := some 81, op := _, type := _, pos := _, after := _, guard := _ }) (v := .pointer (some ⟨p1, 3, none⟩)) rfl (by kernel_rfl) (by kernel_rfl) (by kernel_rfl) (fun _ _ _ h => h) (Or.inl ⟨by rfl, fun W hW => ?_⟩) hS ?_
          · (go_simp)
          (try simp only [Act.put, List.setIfInBounds_toArray, List.set_cons_zero, List.set_cons_succ]); refine wpAnyH_take (i := 27) (oi := { dst := some 82, op := _, type := _, pos := _, after := _, guard := _ }) (v := .int .i64 (s : Int)) rfl (by kernel_rfl) (by kernel_rfl) (by kernel_rfl) (fun _ _ _ h => h) (Or.inl ⟨by rfl, fun W hW => ?_⟩) hS ?_
          · (have hcell := cell_later hW X3.out; go_simp)
          (try simp only [Act.put, List.setIfInBounds_toArray, List.set_cons_zero, List.set_cons_succ]); refine wpAnyH_take (i := 28) (oi := { dst := some 83, op := _, type := _, pos := _, after := _, guard := _ }) (v := .pointer (some ⟨p1, 1, none⟩)) rfl (by kernel_rfl) (by kernel_rfl) (by kernel_rfl) (fun _ _ _ h => h) (Or.inl ⟨by rfl, fun W hW => ?_⟩) hS ?_
          · (go_simp)
          (try simp only [Act.put, List.setIfInBounds_toArray, List.set_cons_zero, List.set_cons_succ]); refine wpAnyH_take (i := 29) (oi := { dst := some 84, op := _, type := _, pos := _, after := _, guard := _ }) (v := .pointer (some ⟨p1, 4, none⟩)) rfl (by kernel_rfl) (by kernel_rfl) (by kernel_rfl) (fun _ _ _ h => h) (Or.inl ⟨by rfl, fun W hW => ?_⟩) hS ?_
          · (go_simp)
          (try simp only [Act.put, List.setIfInBounds_toArray, List.set_cons_zero, List.set_cons_succ]); refine wpAnyH_take (i := 30) (oi := { dst := some 85, op := _, type := _, pos := _, after := _, guard := _ }) (v := .int .i64 (e : Int)) rfl (by kernel_rfl) (by kernel_rfl) (by kernel_rfl) (fun _ _ _ h => h) (Or.inl ⟨by rfl, fun W hW => ?_⟩) hS ?_
          · (have hcell := cell_later hW X4.out; go_simp)
          (try simp only [Act.put, List.setIfInBounds_toArray, List.set_cons_zero, List.set_cons_succ]); refine wpAnyH_take (i := 31) (oi := { dst := some 86, op := _, type := _, pos := _, after := _, guard := _ }) (v := .slice Am (e - s) (c - s)) rfl (by kernel_rfl) (by kernel_rfl) (by kernel_rfl) (fun _ _ _ h => h) (Or.inl ⟨by rfl, fun W hW => ?_⟩) hS ?_
          · (have h := M1.out W; go_simp)
          (try simp only [Act.put, List.setIfInBounds_toArray, List.set_cons_zero, List.set_cons_succ]); refine wpAnyH_take (i := 33) (oi := { dst := some 88, op := _, type := _, pos := _, after := _, guard := _ }) (v := .pointer (some ⟨p1, 0, none⟩)) rfl (by kernel_rfl) (by kernel_rfl) (by kernel_rfl) (fun _ _ _ h => h) (Or.inl ⟨by rfl, fun W hW => ?_⟩) hS ?_
          · (go_simp)
          (try simp only [Act.put, List.setIfInBounds_toArray, List.set_cons_zero, List.set_cons_succ]); refine wpAnyH_take (i := 34) (oi := { dst := some 89, op := _, type := _, pos := _, after := _, guard := _ }) (v := .string ky) rfl (by kernel_rfl) (by kernel_rfl) (by kernel_rfl) (fun _ _ _ h => h) (Or.inl ⟨by rfl, fun W hW => ?_⟩) hS ?_
          · (have hcell := cell_later hW X0.out; go_simp)
          (try simp only [Act.put, List.setIfInBounds_toArray, List.set_cons_zero, List.set_cons_succ]); refine wpAnyH_ready (rs := [32]) (by kernel_rfl) (by simp) ?_; refine AllReadyH.cons (o := { dst := some 87, op := _, type := _, pos := _, after := _, guard := _ }) rfl (fun K hK => ?_) AllReadyH.nil; go_simp
          (go_at_call 32)
          refine (FKa.out _ (below_step HW5.out hS)).mono ?_; rintro E w6 ⟨rfl, p6⟩; have H6 := Aside0.mk (below_step hS p6); clear p6; go_wp2_with fail; refine hK.out _ _ H6.out (fun hS2 => ?_); clear hK K hS; have hS := hS2; clear hS2; (try simp only [Act.put, List.setIfInBounds_toArray, List.set_cons_zero, List.set_cons_succ]); refine wpAnyH_take (i := 35) (oi := { dst := some 90, op := _, type := _, pos := _, after := _, guard := _ }) (v := .bool false) rfl (by kernel_rfl) (by kernel_rfl) (by kernel_rfl) (fun _ _ _ h => h) (Or.inl ⟨by rfl, fun W hW => ?_⟩) hS ?_
          · (go_simp)
          (try simp only [Act.put, List.setIfInBounds_toArray, List.set_cons_zero, List.set_cons_succ]); refine wpAnyH_take (i := 36) (oi := { dst := some 91, op := _, type := _, pos := _, after := _, guard := _ }) (v := .bool false) rfl (by kernel_rfl) (by kernel_rfl) (by kernel_rfl) (fun _ _ _ h => h) (Or.inl ⟨by rfl, fun W hW => ?_⟩) hS ?_
          · (go_simp)
          (try simp only [Act.put, List.setIfInBounds_toArray, List.set_cons_zero, List.set_cons_succ]); refine wpAnyH_take (i := 37) (oi := { dst := some 92, op := _, type := _, pos := _, after := _, guard := _ }) (v := .bool false) rfl (by kernel_rfl) (by kernel_rfl) (by kernel_rfl) (fun _ _ _ h => h) (Or.inl ⟨by rfl, fun W hW => ?_⟩) hS ?_
          · (go_simp)
          (try simp only [Act.put, List.setIfInBounds_toArray, List.set_cons_zero, List.set_cons_succ]); refine wpAnyH_take (i := 38) (oi := { dst := some 93, op := _, type := _, pos := _, after := _, guard := _ }) (v := .slice Bq mq dq) rfl (by kernel_rfl) (by kernel_rfl) (by kernel_rfl) (fun _ _ _ h => h) (Or.inl ⟨by rfl, fun W hW => ?_⟩) hS ?_
          · (go_simp)
          (try simp only [Act.put, List.setIfInBounds_toArray, List.set_cons_zero, List.set_cons_succ]); refine wpAnyH_take (i := 39) (oi := { dst := some 94, op := _, type := _, pos := _, after := _, guard := _ }) (v := .pointer (some ⟨q1, 1, none⟩)) rfl (by kernel_rfl) (by kernel_rfl) (by kernel_rfl) (fun _ _ _ h => h) (Or.inl ⟨by rfl, fun W hW => ?_⟩) hS ?_
          · (go_simp)
          (try simp only [Act.put, List.setIfInBounds_toArray, List.set_cons_zero, List.set_cons_succ]); refine wpAnyH_take (i := 40) (oi := { dst := some 95, op := _, type := _, pos := _, after := _, guard := _ }) (v := .pointer (some ⟨q1, 3, none⟩)) rfl (by kernel_rfl) (by kernel_rfl) (by kernel_rfl) (fun _ _ _ h => h) (Or.inl ⟨by rfl, fun W hW => ?_⟩) hS ?_
          · (go_simp)
          (try simp only [Act.put, List.setIfInBounds_toArray, List.set_cons_zero, List.set_cons_succ]); refine wpAnyH_take (i := 41) (oi := { dst := some 96, op := _, type := _, pos := _, after := _, guard := _ }) (v := .int .i64 (f : Int)) rfl (by kernel_rfl) (by kernel_rfl) (by kernel_rfl) (fun _ _ _ h => h) (Or.inl ⟨by rfl, fun W hW => ?_⟩) hS ?_
          · (have hcell := cell_later hW Y3.out; go_simp)
          (try simp only [Act.put, List.setIfInBounds_toArray, List.set_cons_zero, List.set_cons_succ]); refine wpAnyH_take (i := 42) (oi := { dst := some 97, op := _, type := _, pos := _, after := _, guard := _ }) (v := .pointer (some ⟨q1, 1, none⟩)) rfl (by kernel_rfl) (by kernel_rfl) (by kernel_rfl) (fun _ _ _ h => h) (Or.inl ⟨by rfl, fun W hW => ?_⟩) hS ?_
          · (go_simp)
          (try simp only [Act.put, List.setIfInBounds_toArray, List.set_cons_zero, List.set_cons_succ]); refine wpAnyH_take (i := 43) (oi := { dst := some 98, op := _, type := _, pos := _, after := _, guard := _ }) (v := .pointer (some ⟨q1, 4, none⟩)) rfl (by kernel_rfl) (by kernel_rfl) (by kernel_rfl) (fun _ _ _ h => h) (Or.inl ⟨by rfl, fun W hW => ?_⟩) hS ?_
          · (go_simp)
          (try simp only [Act.put, List.setIfInBounds_toArray, List.set_cons_zero, List.set_cons_succ]); refine wpAnyH_take (i := 44) (oi := { dst := some 99, op := _, type := _, pos := _, after := _, guard := _ }) (v := .int .i64 (g : Int)) rfl (by kernel_rfl) (by kernel_rfl) (by kernel_rfl) (fun _ _ _ h => h) (Or.inl ⟨by rfl, fun W hW => ?_⟩) hS ?_
          · (have hcell := cell_later hW Y4.out; go_simp)
          (try simp only [Act.put, List.setIfInBounds_toArray, List.set_cons_zero, List.set_cons_succ]); refine wpAnyH_take (i := 45) (oi := { dst := some 100, op := _, type := _, pos := _, after := _, guard := _ }) (v := .slice Bm (g - f) (dq - f)) rfl (by kernel_rfl) (by kernel_rfl) (by kernel_rfl) (fun _ _ _ h => h) (Or.inl ⟨by rfl, fun W hW => ?_⟩) hS ?_
          · (have h := M4.out W; go_simp)
          (try simp only [Act.put, List.setIfInBounds_toArray, List.set_cons_zero, List.set_cons_succ]); refine wpAnyH_take (i := 47) (oi := { dst := some 102, op := _, type := _, pos := _, after := _, guard := _ }) (v := .pointer (some ⟨q1, 0, none⟩)) rfl (by kernel_rfl) (by kernel_rfl) (by kernel_rfl) (fun _ _ _ h => h) (Or.inl ⟨by rfl, fun W hW => ?_⟩) hS ?_
          · (go_simp)
          (try simp only [Act.put, List.setIfInBounds_toArray, List.set_cons_zero, List.set_cons_succ]); refine wpAnyH_take (i := 48) (oi := { dst := some 103, op := _, type := _, pos := _, after := _, guard := _ }) (v := .string ky) rfl (by kernel_rfl) (by kernel_rfl) (by kernel_rfl) (fun _ _ _ h => h) (Or.inl ⟨by rfl, fun W hW => ?_⟩) hS ?_
          · (have hcell := cell_later hW Y0.out; go_simp)
          (try simp only [Act.put, List.setIfInBounds_toArray, List.set_cons_zero, List.set_cons_succ]); refine wpAnyH_ready (rs := [46]) (by kernel_rfl) (by simp) ?_; refine AllReadyH.cons (o := { dst := some 101, op := _, type := _, pos := _, after := _, guard := _ }) rfl (fun K hK => ?_) AllReadyH.nil; go_simp
          (go_at_call 32)
          refine (FKb.out _ (below_step HW5.out hS)).mono ?_; rintro E w6 ⟨rfl, p6⟩; have H7 := Aside0.mk (below_step hS p6); clear p6; go_wp2_with fail; refine hK.out _ _ H7.out (fun hS2 => ?_); clear hK K hS; have hS := hS2; clear hS2; (try simp only [Act.put, List.setIfInBounds_toArray, List.set_cons_zero, List.set_cons_succ]); refine wpAnyH_take (i := 49) (oi := { dst := some 104, op := _, type := _, pos := _, after := _, guard := _ }) (v := .bool false) rfl (by kernel_rfl) (by kernel_rfl) (by kernel_rfl) (fun _ _ _ h => h) (Or.inl ⟨by rfl, fun W hW => ?_⟩) hS ?_
          · (go_simp)
          (try simp only [Act.put, List.setIfInBounds_toArray, List.set_cons_zero, List.set_cons_succ]); refine wpAnyH_take (i := 50) (oi := { dst := some 105, op := _, type := _, pos := _, after := _, guard := _ }) (v := .bool false) rfl (by kernel_rfl) (by kernel_rfl) (by kernel_rfl) (fun _ _ _ h => h) (Or.inl ⟨by rfl, fun W hW => ?_⟩) hS ?_
          · (go_simp)
          (try simp only [Act.put, List.setIfInBounds_toArray, List.set_cons_zero, List.set_cons_succ]); refine wpAnyH_done (by kernel_rfl) ?_ _; go_wp2; go_roundw
          case rel => exact ⟨i + 1, by omega, by go_num, ⟨below_step H5.out H7.out⟩⟩
          case measure => simp [intOf]; omega
      · have hd : decide ((i : Int) < (p : Int)) = false := decide_eq_false (by omega); have hd' : decide (i < p) = false := decide_eq_false hlt; clear hlt; go_wp2; go_ret; exact ⟨rfl, below_step (below_step HBq.out H4.out) HR.out⟩
end Go.Proofs.YthffpkdadffinaaDoor.Lws
namespace Go.Proofs.YthffpkdadffinaaDoor.X
set_option linter.unusedVariables false
set_option linter.unusedSimpArgs false
open Go.RowKit YthffpkdadffinaaDoorW.PrintWords Vp0
def tremalaw13_WordsSame.f (a b : List Int) : Option Bool := if (bytesB a = true ∧ a.length ≤ 1048576) ∧ bytesB b = true ∧ b.length ≤ 1048576 then some true else none
theorem tremalaw13_WordsSame.calls (A0 : Option Addr) (c0 : Nat) (a : List Int) (A1 : Option Addr) (c1 : Nat) (b : List Int) (r : Bool) (w : World) (hr0 : Kd.C (Kd.int .u8) w A0 a.length a) (hc0 : a.length ≤ c0) (hr1 : Kd.C (Kd.int .u8) w A1 b.length b) (hc1 : b.length ≤ c1) (h : tremalaw13_WordsSame.f a b = some r) (hG0 : Va.G w) :
  Calls Tryd.prog 9 #[.slice A0 a.length c0, .slice A1 b.length c1] w fun e w' => e = .returned (.bool r) ∧ Below w.heap.size w w' := by
  unfold tremalaw13_WordsSame.f at h; split at h
  · rename_i hh; cases Option.some.inj h; exact Lws.wordsSameP w hG0 A0 A1 a.length c0 b.length c1 a b hr0 rfl hc0 hr1 rfl hc1 (bytesB_of hh.1.1) (bytesB_of hh.2.1) hh.1.2 hh.2.2
  · cases h
theorem tremalaw13_WordsSame.pure (a : List Int) (hwf : ∀ y ∈ a, (Lit.int .u8 y).wf = true) (hl : a.length ≤ 1048576) (b : List Int) (hwb : ∀ y ∈ b, (Lit.int .u8 y).wf = true) (hlb : b.length ≤ 1048576) : tremalaw13_WordsSame.f a b = some true := by
  unfold tremalaw13_WordsSame.f; rw [if_pos ⟨⟨Sgr.bytesB_mk (Ot.wf_bytes hwf), hl⟩, Sgr.bytesB_mk (Ot.wf_bytes hwb), hlb⟩]
end Go.Proofs.YthffpkdadffinaaDoor.X
namespace Go.Proofs.YthffpkdadffinaaDoor.wordsSame
open Go.ChangeShapes Go.WideShapes Go.ChangeAt Go.RowKit
open Go.ChangeMaps (open_string shut_string)
set_option linter.unusedVariables false
set_option linter.unusedSimpArgs false
theorem own : ownKnob Tryd.prog.godebug = none := by kernel_rfl
theorem laidOut : laidOutB Tryd.prog = true := by kernel_rfl
set_option maxRecDepth 100000 in
theorem contract (H : Type) (enc : TypeId × Value → H) (W : World) (base : Nat) (args : Array Value) (ds gs : List (DataW H)) (before : List MemPlace)
    (hval0 : ∀ (j : Nat) t v, Tryd.f9.params[j]? = some t → args[j]? = some v → Value.okWide Tryd.prog W .any base t v)
    (hW : DataW.Whole enc Tryd.prog Tryd.f9.params.toList Rows.wordsSameSpec.vars false W args.toList ds gs before)
    (hL : laidMetH Tryd.prog Lv.laid W)
    (hk0 : Rows.uptoSmall H (ds ++ gs) = true) :
    Calls Tryd.prog 9 args W fun e W' => ∃ v, e = .returned v ∧ Rows.wordsSameSpec.post enc Tryd.prog Tryd.f9 false true false false W args v W' := by
  have hkb : Rows.uptoBulkAll (ds ++ gs) ≤ 1048576 := of_decide_eq_true hk0; have hval : ∀ (j : Nat) t v, Tryd.f9.params[j]? = some t → args[j]? = some v → Value.okWide Tryd.prog W .any base t v := hval0; have hW' := hW; obtain ⟨p, q, hA0, hV, rfl, hfz, hnd⟩ := hW; have hA : DataW.TrodAll enc Tryd.prog W 0 (fun _ => true) true Tryd.f9.params.toList args.toList ds p := hA0; rw [Tryd.params9] at hA hval; obtain ⟨v0, vs0, d0, ds0, p0, q0, hargs, rfl, rfl, h0, r0⟩ := trodAll_cons hA; obtain ⟨v1, vs1, d1, ds1, p1, q1, rfl, rfl, rfl, h1, r1⟩ := trodAll_cons r0; obtain ⟨rfl, rfl, rfl⟩ := trodAll_nil r1; (obtain rfl : args = #[v0, v1] := by cases args; simp_all); obtain ⟨rfl, rfl⟩ := trodVars_none hV; have k0 := h0; (have lt0 : ∀ x ∈ p0, x.block < W.heap.size := by obtain ⟨m, hm⟩ := k0; exact DataW.trod_lt m _ _ _ hm); obtain ⟨A0, xs0, c0, rfl, hc0, hC0, hw0, hb0, hz0⟩ := Od.arg_slice Tryd.underlying23 (by kernel_rfl) (Od.opens_int Tryd.underlying5) (hval 0 23 v0 rfl rfl) h0; have k1 := h1; (have lt1 : ∀ x ∈ p1, x.block < W.heap.size := by obtain ⟨m, hm⟩ := k1; exact DataW.trod_lt m _ _ _ hm); obtain ⟨A1, xs1, c1, rfl, hc1, hC1, hw1, hb1, hz1⟩ := Od.arg_slice Tryd.underlying23 (by kernel_rfl) (Od.opens_int Tryd.underlying5) (hval 1 23 v1 rfl rfl) h1; simp only [List.append_nil, Rows.uptoBulkAll] at hkb; have hB0 := Nat.le_trans (Nat.le_trans (Nat.le_succ _) hb0) (show Rows.uptoBulk d0 ≤ 1048576 by omega); have hB1 := Nat.le_trans (Nat.le_trans (Nat.le_succ _) hb1) (show Rows.uptoBulk d1 ≤ 1048576 by omega); clear hA0 hval0 hk0; have hk := Go.Proofs.YthffpkdadffinaaDoor.X.tremalaw13_WordsSame.pure xs0 hw0 (Nat.le_trans (Od.sumB_len (fun _ => Nat.le_refl _) _) hB0) xs1 hw1 (Nat.le_trans (Od.sumB_len (fun _ => Nat.le_refl _) _) hB1); (refine (Go.Proofs.YthffpkdadffinaaDoor.X.tremalaw13_WordsSame.calls A0 c0 xs0 A1 c1 xs1 true W hC0 hc0 hC1 hc1 hk (Lv.of_laid hL)).mono fun e W' ⟨he, bel⟩ => ?_); subst he; exact ⟨_, rfl, _, _, _, [], _, [], hW', trodAll_mk1 (shut_bool Tryd.underlying4 _), (trodAll_cons_mk (Below.trod laidOut (by kernel_rfl) (of_decide_eq_true (by kernel_rfl)) k0 bel lt0) (trodAll_cons_mk (Below.trod laidOut (by kernel_rfl) (of_decide_eq_true (by kernel_rfl)) k1 bel lt1) trodAll_mk0)), rfl, bel.frame _, fun h => by cases h⟩
set_option maxRecDepth 100000 in
theorem lifted (os : Os) (started : os.Started) (H : Type) (enc : TypeId × Value → H) (F : Stop.Interp) :
    ReturnsInHanded {} Tryd.checked os 9 .any ((Rows.OpenSpec.upto Rows.wordsSameSpec).preRow enc Tryd.prog Tryd.f9 Rows.wordsSameUptoRow.domain false Rows.wordsSameUptoRow.laid) (((Rows.OpenSpec.upto Rows.wordsSameSpec).at F).post enc Tryd.prog Tryd.f9 false true false false) := by
  refine returnsInHanded_of_row (C := Tryd.checked) (s := Rows.OpenSpec.upto Rows.wordsSameSpec) own started (by kernel_rfl) Tryd.func9
    (witness_row_atRef (enc := enc) (C := Tryd.checked) false (World.doorLaid Tryd.prog 400 os) #[(.slice none 0 0), (.slice none 0 0)] rfl (by kernel_rfl) (by kernel_rfl) (by kernel_rfl)
      (OpenSpec.preRow_of_cond (x := ([.nil, .nil], [], [])) 8 (by kernel_rfl) (by kernel_rfl) (fun k hk => by cases hk; kernel_rfl) (by kernel_rfl) (Lv.door_met os _))) ?_
  intro W base args ds gs before hval hW _ hcond _ hL _ _; exact contract H enc W base args ds gs before hval hW hL (hcond _ rfl)
theorem proved : Rows.WordsSameUptoSaid :=
  OpenClaim.holds_of_cond 9 Tryd.f9 rfl rfl rfl rfl rfl rfl rfl ⟨rfl, rfl, rfl, rfl, rfl⟩ rfl rfl rfl rfl rfl (by kernel_rfl) Tryd.func9 (by kernel_rfl)
    (of_decide_eq_true (by kernel_rfl)) (by unfold Func.isWrapper; first | (rw [if_pos (by decide +kernel)]; kernel_rfl) | (rw [if_neg (by decide +kernel)]; exact ⟨rfl, rfl⟩))
    (fun os started H enc _ F => by rw [OpenClaim.pre_eq_preRow]; exact lifted os started H enc F)
end Go.Proofs.YthffpkdadffinaaDoor.wordsSame
namespace Go.Proofs.YthffpkdadffinaaDoor
theorem wordsSame_holds : Rows.WordsSameUptoCardSaid :=
  Claim7.holds_tied_plain_at .later [] [.data, .data, .data] true (true, "40dec18509303b2ee17917badb52d4e1cd75dc8afa2e2cbc1ad49e1a0b909216") false
    wordsSame.proved (fun _ h => by cases h) (by kernel_rfl) (fun _ h => by cases h) wordsSameUpto_row_tie rfl ⟨rfl, rfl⟩ (by kernel_rfl) rfl
    (fun f fn hf hfn => by
      obtain rfl : f = 9 := Option.some.inj ((show Tryd.prog.funcNamed "trema/tremalaw13.WordsSame" = some 9 by kernel_rfl).symm.trans hf) |>.symm; obtain rfl : fn = Tryd.f9 := (Option.some.inj (Tryd.func9.symm.trans hfn)).symm
      exact ⟨by kernel_rfl, fun j t ht => by
        rw [Tryd.params9] at ht; (have hm : t ∈ [23, 23] := by simpa using Array.mem_of_getElem? ht); have hall : ([23, 23].all fun u => !Tryd.prog.wantsStandIn u) = true := by kernel_rfl
        exact (show Tryd.prog.wantsStandIn t = false by simpa using List.all_eq_true.1 hall t hm)⟩)
    (by kernel_rfl)
#print axioms wordsSame_holds
end Go.Proofs.YthffpkdadffinaaDoor
