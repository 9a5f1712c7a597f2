/-
  Several texts of this claim in one: what its law's proof uses.
-/
import Derived.Test.YtiggjbclbdikmaaDoorMS4
import Derived.Test.YtiggjbclbdikmaaDoorMS3
import Derived.Deep.RegionHeld3
import Derived.Deep.DeepCutAuto
import Derived.BigQuiet
import Derived.Test.YtiggjbclbdikmaaDoorRows
import Derived.Test.YtiggjbclbdikmaaDoorMS1
import Derived.Deep.Slices
import Derived.ChangeArms
import Derived.ChangeMaps
import Derived.SizedLaws
import Derived.OpenShut
import Derived.ProofKit
import Derived.LaidMore
import Derived.Stop.Joined
import Derived.Test.YtiggjbclbdikmaaDoorTie
import Derived.Test.YtiggjbclbdikmaaDoorCards
import Derived.WalkKit
import Derived.ShutString
import Derived.ChangeOld
import Derived.Below
import Derived.JoinedCond
import Derived.SevenTiedAt
import Derived.Deep.DeepHandedRow
import Derived.Deep.DeepWitnessRowRef
namespace Go.Proofs.YtiggjbclbdikmaaDoor.Lst
set_option linter.unusedVariables false
set_option linter.unusedSimpArgs false
open Go.Proofs.YtiggjbclbdikmaaDoor.Vd (decU)
open Go.Proofs.YtiggjbclbdikmaaDoor.Fr (sure sure_of K3 T3)
open Go.RowKit Go.Proofs.YtiggjbclbdikmaaDoorW.PrintWords Go.Proofs.YtiggjbclbdikmaaDoor.Hp Go.Proofs.YtiggjbclbdikmaaDoor.Ev0 Go.Proofs.YtiggjbclbdikmaaDoor.X Go.Proofs.YtiggjbclbdikmaaDoor.Va Go.Proofs.YtiggjbclbdikmaaDoor.Vp0 Go.Proofs.YtiggjbclbdikmaaDoor.Vr Go.Proofs.YtiggjbclbdikmaaDoor.Vu Go.Proofs.YtiggjbclbdikmaaDoor.Na Go.Proofs.YtiggjbclbdikmaaDoor.Oa Go.Proofs.YtiggjbclbdikmaaDoor.Cn
def pk (q : Int) (l : List Int) : List Int := l.filter (fun x => cls x == 0 || cls x == q)
theorem pk_snoc (q : Int) (l : List Int) (x : Int) : pk q (l ++ [x]) = if cls x = 0 ∨ cls x = q then pk q l ++ [x] else pk q l := by
  unfold pk
  rw [List.filter_append]
  by_cases h : cls x = 0 ∨ cls x = q
  · rw [if_pos h, List.filter_cons_of_pos (by simpa using h)]; rfl
  · rw [if_neg h, List.filter_cons_of_neg (by simpa using h)]; simp
theorem pk_le (q : Int) (l : List Int) : (pk q l).length ≤ l.length := List.length_filter_le ..
def PickPost (w : World) (r : List Int) (e : Ending) (w' : World) : Prop := ∃ v, e = .returned v ∧ K3.R T3 w' w.heap.size (fun _ => True) v r ∧ Below w.heap.size w w'
set_option maxRecDepth 100000 in
set_option maxHeartbeats 2000000 in
theorem PickP (w : World) (A : Option Addr) (n c : Nat) (l : List Int) (hC : K3.C w A n l) (hn : n = l.length) (hc : n ≤ c) (hl : n ≤ 100000000) (g : Nat) (q : Int) (hq : 0 ≤ q ∧ q ≤ 255) (hg : w.cell? ⟨g, 0, none⟩ = some (.int .u8 q)) :
    Calls Tryd.prog 37 #[.slice A n c, .pointer (some ⟨g, 0, none⟩)] w (PickPost w (pk q l)) := by
  have HC := Aside0.mk hC
  have HN := Aside0.mk hn
  have HB := Aside0.mk (Below.refl w.heap.size w)
  have HO := Aside0.mk (Kd.R_nil K3 T3 w w.heap.size (fun _ => True))
  have HG := Aside0.mk hg
  obtain ⟨hq0, hq1⟩ := hq
  have HGL := Aside0.mk (World.block_lt_of_cell? w _ hg)
  clear hC hn hg
  go_enter Tryd.func37, Tryd.ntmps37
  go_wp2
  go_loopw [4, 10] (fun v4 v10 wr => ∃ (i : Nat) (xs : List Int), v10 = .int .i64 i ∧ i ≤ n ∧ Aside0 (xs = pk q (l.take i)) ∧ Aside0 (K3.R T3 wr w.heap.size (fun _ => True) v4 xs) ∧ Aside0 (Below w.heap.size w wr)) (fun _ v10 _ => n - (intOf v10).toNat)
  case atStart => exact ⟨0, [], rfl, Nat.zero_le _, ⟨rfl⟩, HO, HB⟩
  case round =>
    clear HO HB
    obtain ⟨i, xs, rfl, hi, HX, HO_3, HB⟩ := hrel
    by_cases hlt : i < n
    · have hd : decide ((i : Int) < (n : Int)) = true := decide_eq_true (by omega)
      have hd2 : decide (i < n) = true := decide_eq_true hlt
      have hil : i < l.length := by have := HN.out; omega
      obtain ⟨ad, rfl, hx⟩ := Kd.at_int HC.out (i : Int) (by omega) (by omega)
      rw [show rd l (i : Int) = l[i] by unfold rd; simp [List.getD_eq_getElem?_getD, List.getElem?_eq_getElem hil], Int.toNat_natCast] at hx
      have hx := (HB.out.cell (World.block_lt_of_cell? w _ hx)).trans hx
      have hn0 : (0 : Int) ≤ (i : Int) := by omega
      have hn1 : (i : Int) < (n : Int) := by omega
      obtain ⟨x, hxx⟩ : ∃ x, x = l[i] := ⟨_, rfl⟩
      have e1 := pk_snoc q (l.take i) x
      rw [hxx, ← List.take_succ_eq_append_getElem hil, ← hxx] at e1
      have hle := pk_le q (l.take i)
      rw [List.length_take] at hle
      have HX1 := Aside0.mk e1
      have LM := Aside0.mk (show xs.length ≤ 100000000 by rw [HX.out]; omega)
      rw [← hxx] at hx
      have HCL := Aside0.mk (cls_nonneg x)
      have HCR := Aside0.mk (ClsR wr x)
      have hcell := (HB.out.cell HGL.out).trans HG.out
      have HCE := Aside0.mk hcell
      clear e1 hle hxx hcell
      by_cases hz : cls x = 0 ∨ cls x = q
      · have HX2 := Aside0.mk (show pk q (l.take (i + 1)) = xs ++ [x] by rw [HX1.out, if_pos hz, HX.out])
        obtain ⟨y, hy⟩ : ∃ y : List Int, y = xs ++ [x] := ⟨_, rfl⟩
        have HY := Aside0.mk hy
        clear hy
        go_upto_region 6 with (first | (go_at_call 29; go_must (refine HCR.out.mono ?_; rintro e w2 ⟨rfl, p1⟩; have n0_ := Aside0.mk (Kd.R_below HO_3.out p1); have n1_ := Aside0.mk (below_step HB.out p1); clear HO_3 HB; have HO_3 := n0_; have HB := n1_; clear n0_ n1_ p1)))
        obtain ⟨z1, hz1⟩ | ⟨z0, z1⟩ : (∃ _ : Aside0 True, (cls x == 0) = true) ∨ ((cls x == 0) = false ∧ (cls x == q) = true) := by
          rcases Classical.em (cls x = 0) with h | h
          · exact .inl ⟨⟨trivial⟩, by simpa using h⟩
          · exact .inr ⟨by simpa using h, by simpa using hz.resolve_left h⟩
        · clear hz
          go_wp2_with (first | (at_builtin; go_must (refine Kd.R_append K3 (w0 := w) w.heap.size rfl (.tmp 24) (.tmp 26) 22 T3 (.int .i32 0) 4 rfl Tryd.underlying22 info21 rfl (by decide) (by omega) u4 xs x [.int .i32 x] (fun _ => True) (fun _ => False) rfl rfl ?aP (fun _ hk => hk.elim) ?aF ?aO ?aB ?aS ?aL ?_; (case aP => exact rfl); (case aB => exact HB.out); (case aF => exact (fun _ _ => trivial)); (case aO => exact HO_3.out); (case aS => exact HB.out.size); (case aL => have := LM.out; omega); intro v w8 ho hb hg hat; rw [← HY.out] at ho; have n1_ := Aside0.mk hb; have n2_ := Aside0.mk ho; clear HB HO_3; have HB := n1_; have HO := n2_; clear n1_ n2_; clear ho hb hg hat)))
          go_roundw
          case rel => exact ⟨i + 1, y, by go_num, by omega, ⟨by rw [HX2.out]; exact HY.out⟩, HO, HB⟩
          case measure => simp [intOf] <;> omega
        · clear hz
          have hc2 := (HB.out.cell HGL.out).trans HG.out
          go_wp2_with (first | (at_builtin; go_must (refine Kd.R_append K3 (w0 := w) w.heap.size rfl (.tmp 24) (.tmp 26) 22 T3 (.int .i32 0) 4 rfl Tryd.underlying22 info21 rfl (by decide) (by omega) u4 xs x [.int .i32 x] (fun _ => True) (fun _ => False) rfl rfl ?aP (fun _ hk => hk.elim) ?aF ?aO ?aB ?aS ?aL ?_; (case aP => exact rfl); (case aB => exact HB.out); (case aF => exact (fun _ _ => trivial)); (case aO => exact HO_3.out); (case aS => exact HB.out.size); (case aL => have := LM.out; omega); intro v w8 ho hb hg hat; rw [← HY.out] at ho; have n1_ := Aside0.mk hb; have n2_ := Aside0.mk ho; clear HB HO_3; have HB := n1_; have HO := n2_; clear n1_ n2_; clear ho hb hg hat)))
          go_roundw
          case rel => exact ⟨i + 1, y, by go_num, by omega, ⟨by rw [HX2.out]; exact HY.out⟩, HO, HB⟩
          case measure => simp [intOf] <;> omega
      · have HX2 := Aside0.mk (show xs = pk q (l.take (i + 1)) by rw [HX1.out, if_neg hz, HX.out])
        have z0 : (cls x == 0) = false := by simpa using fun h => hz (.inl h)
        have z1 : (cls x == q) = false := by simpa using fun h => hz (.inr h)
        clear hz
        go_upto_region 6 with (first | (go_at_call 29; go_must (refine HCR.out.mono ?_; rintro e w2 ⟨rfl, p1⟩; have n0_ := Aside0.mk (Kd.R_below HO_3.out p1); have n1_ := Aside0.mk (below_step HB.out p1); clear HO_3 HB; have HO_3 := n0_; have HB := n1_; clear n0_ n1_ p1)))
        have hc2 := (HB.out.cell HGL.out).trans HG.out
        go_wp2
        go_roundw
        case rel => exact ⟨i + 1, xs, by go_num, by omega, HX2, HO_3, HB⟩
        case measure => simp [intOf] <;> omega
    · have hd : decide ((i : Int) < (n : Int)) = false := decide_eq_false (by omega)
      have hd2 : decide (i < n) = false := decide_eq_false hlt
      go_wp2
      go_ret
      have e : pk q l = xs := by rw [HX.out, List.take_of_length_le (by have := HN.out; omega)]
      exact ⟨_, rfl, by rw [e]; exact HO_3.out, HB.out⟩
theorem ins_pk (q x : Int) : ∀ r, pk q (ins x r) = pk q (x :: r)
  | [] => rfl
  | y :: r => by
    have hx0 := cls_nonneg x
    rw [ins]
    split
    · rename_i h
      have ih := ins_pk q x r
      unfold pk at ih ⊢
      rw [List.filter_cons, ih]
      by_cases hx : cls x = 0 ∨ cls x = q
      · have hy : (cls y == 0 || cls y == q) = false := by simp; omega
        simp only [hy, Bool.false_eq_true, if_false, List.filter_cons]
      · have hx' : (cls x == 0 || cls x == q) = false := by simp; omega
        simp only [hx', Bool.false_eq_true, if_false, List.filter_cons]
    · rfl
theorem fold_pk (q : Int) : ∀ (l r : List Int), pk q (l.foldl (fun acc x => ins x acc) r) = pk q (l.reverse ++ r)
  | [], r => rfl
  | x :: l, r => by
    rw [List.foldl_cons, fold_pk q l, List.reverse_cons, List.append_assoc]
    have h := ins_pk q x r
    unfold pk at h ⊢
    rw [List.filter_append, h, List.filter_append]
    rfl
theorem ordL_pk (q : Int) (l : List Int) : pk q (ordL l) = pk q l := by
  have h := fold_pk q l []
  rw [List.append_nil] at h
  unfold pk at h ⊢
  unfold ordL ordR
  rw [List.filter_reverse, h, ← List.filter_reverse, List.reverse_reverse]
theorem nrm_pk (q : Int) (l : List Int) : pk q (nrm l) = pk q (flat l) := ordL_pk q (flat l)
set_option maxRecDepth 100000 in
set_option maxHeartbeats 4000000 in
theorem stable (w : World) (hG : G w) (A : Option Addr) (l : List Int) (c : Nat) (hC : K3.C w A l.length l) (hc : l.length ≤ c) (hwf : ∀ x ∈ l, I32 x) (hl : l.length ≤ 1048576) (q : Int) (hq : 0 ≤ q ∧ q ≤ 255) :
    Calls Tryd.prog 11 #[.slice A l.length c, .int .u8 q] w fun e w' => e = .returned (.bool true) ∧ Below w.heap.size w w' := by
  obtain ⟨n, hn⟩ : ∃ n, n = l.length := ⟨_, rfl⟩
  rw [← hn] at hC hc hl ⊢
  have HC := Aside0.mk hC
  have HN := Aside0.mk hn
  have HG := Aside0.mk hG
  have HWF := Aside0.mk hwf
  have HQ := Aside0.mk hq
  clear hC hn hG hwf hq
  go_enter Tryd.func11, Tryd.ntmps11
  go_upto_region 5 with (first | (go_at_call 19; go_must (refine (Nf.fixedP (w.alloc (.cells #[.int .u8 q] 5)) (HG.out.below (below_alloc (Below.refl _ _) _))).mono ?_; rintro e w1 ⟨rfl, p1⟩; have H1 := Aside0.mk p1; clear p1)))
  have HB0 := Aside0.mk (show Below w.heap.size w w1 from Nf.up H1.out)
  have HQC := Aside0.mk (show w1.cell? ⟨w.heap.size, 0, none⟩ = some (.int .u8 q) by
    have h := H1.out.cell (p := ⟨w.heap.size, 0, none⟩) (by simp)
    exact h.trans (blk_cell (heap_alloc_new w _) 0))
  obtain ⟨g, hg⟩ : ∃ g, g = w.heap.size := ⟨_, rfl⟩
  rw [← hg] at HQC ⊢
  have HGL := Aside0.mk (World.block_lt_of_cell? w1 _ HQC.out)
  have HG1 := Aside0.mk (HG.out.below HB0.out)
  have HC1 := Aside0.mk (Kd.C_below HC.out HB0.out)
  have HB := Aside0.mk (Below.refl w1.heap.size w1)
  have HO := Aside0.mk (Kd.R_nil K3 T3 w1 w1.heap.size (fun _ => True))
  clear H1 hg
  go_wp2
  go_loopw [6, 14] (fun v6 v14 wr => ∃ (i : Nat) (xs : List Int), v14 = .int .i64 i ∧ i ≤ n ∧ Aside0 (xs = flat (l.take i)) ∧ Aside0 (K3.R T3 wr w1.heap.size (fun _ => True) v6 xs) ∧ Aside0 (Below w1.heap.size w1 wr)) (fun _ v14 _ => n - (intOf v14).toNat)
  case atStart => exact ⟨0, [], rfl, Nat.zero_le _, ⟨rfl⟩, HO, HB⟩
  case round =>
    clear HO HB
    obtain ⟨i, xs, rfl, hi, HX, HO_3, HB⟩ := hrel
    by_cases hlt : i < n
    · have hd : decide ((i : Int) < (n : Int)) = true := decide_eq_true (by omega)
      have hd2 : decide (i < n) = true := decide_eq_true hlt
      have hil : i < l.length := by have := HN.out; omega
      obtain ⟨ad, rfl, hx⟩ := Kd.at_int HC1.out (i : Int) (by omega) (by omega)
      rw [show rd l (i : Int) = l[i] by unfold rd; simp [List.getD_eq_getElem?_getD, List.getElem?_eq_getElem hil], Int.toNat_natCast] at hx
      have hx := (HB.out.cell (World.block_lt_of_cell? w1 _ hx)).trans hx
      have hn0 : (0 : Int) ≤ (i : Int) := by omega
      have hn1 : (i : Int) < (n : Int) := by omega
      have hx32 := HWF.out l[i] (List.getElem_mem hil)
      obtain ⟨x, hxx⟩ : ∃ x, x = l[i] := ⟨_, rfl⟩
      have e1 : flat (l.take (i + 1)) = xs ++ decU x := by rw [HX.out, hxx, List.take_succ_eq_append_getElem hil, flat_app]; simp [flat]
      have h1 := flat_len (l.take (i + 1)) (fun y hy => HWF.out y (List.mem_of_mem_take hy))
      rw [e1, List.length_take, List.length_append] at h1
      rw [← hxx] at hx hx32
      have HX32 := Aside0.mk hx32
      have HX1 := Aside0.mk e1
      have LM := Aside0.mk (show xs.length + (decU x).length < 35184372088832 by omega)
      obtain ⟨y, hy⟩ : ∃ y : List Int, y = xs ++ decU x := ⟨_, rfl⟩
      have HY := Aside0.mk hy
      clear e1 h1 hxx hx32 hy
      go_wp2_with (first | (go_at_call 36; go_must (refine (DecR _ x HX32.out).mono ?_; rintro e w7 ⟨v232, rfl, ho0, hb⟩; have n0_ := Aside0.mk (Kd.R_elder' HO_3.out (Kd.R_base ho0) hb); have n1_ := Aside0.mk (Kd.R_lower (Kd.R_new' ho0 (Kd.R_lt HO_3.out)) HB.out.size); have n2_ := Aside0.mk (below_step HB.out hb); clear HO_3 HB; have HO_3 := n0_; have HO233 := n1_; have HB := n2_; clear n0_ n1_ n2_ hb ho0; obtain ⟨Ao9, co9, eo9⟩ := Kd.R_slice HO233.out; subst eo9)) | (at_builtin; go_must (refine Kd.R_append_rows K3 (w0 := w1) w1.heap.size rfl (.tmp 18) (.tmp 20) 22 T3 (.int .i32 0) 4 rfl Tryd.underlying22 info21 rfl (by decide) (by omega) u6 xs (decU x) _ _ _ (fun k_ => some k_ ≠ (.slice Ao9 (decU x).length co9 : Value).ownBlock) (fun _ => False) rfl rfl ?aO ?aR (fun _ _ h => h) (fun _ h => h.elim) ?aF ?aB ?aS ?aL ?_; (case aR => exact (Kd.R_reads' HO233.out).2.2); (case aB => exact HB.out); (case aF => exact (fun k_ hk => Kd.fresh' (Kd.R_lt HO233.out) k_ hk)); (case aO => exact Kd.R_mono HO_3.out (fun _ hk => hk.2)); (case aS => exact HB.out.size); (case aL => have := LM.out; omega); intro v235 w8 ho hb hg hat; rw [← HY.out] at ho; have n1_ := Aside0.mk hb; have n2_ := Aside0.mk ho; clear HO233 HB HO_3; have HB := n1_; have HO236 := n2_; clear n1_ n2_ ho hb hg hat)))
      go_roundw
      case rel => exact ⟨i + 1, y, by go_num, by omega, ⟨by rw [HX1.out]; exact HY.out⟩, ⟨Kd.R_mono HO236.out (fun _ _ => trivial)⟩, HB⟩
      case measure => simp [intOf] <;> omega
    · have hd : decide ((i : Int) < (n : Int)) = false := decide_eq_false (by omega)
      have hd2 : decide (i < n) = false := decide_eq_false hlt
      have hxs : xs = flat l := by rw [HX.out, List.take_of_length_le (by have := HN.out; omega)]
      have hfl := flat_len l HWF.out
      have hnl := nrm_len l
      have hnr := HN.out
      obtain ⟨Ad, cd, rfl, hcd, hCd⟩ := Kd.R_reads HO_3.out
      obtain ⟨m, hm⟩ : ∃ m, m = xs.length := ⟨_, rfl⟩
      rw [← hm] at hCd hcd ⊢
      have HM := Aside0.mk hm
      have HCd := Aside0.mk hCd
      have HML := Aside0.mk (show m ≤ 3145728 by rw [hm, hxs]; omega)
      obtain ⟨N2, hN2⟩ : ∃ N2, N2 = (nrm l).length := ⟨_, rfl⟩
      have HN2 := Aside0.mk hN2
      have HML2 := Aside0.mk (show N2 ≤ 3145728 by omega)
      have HPK := Aside0.mk (show pk q (nrm l) = pk q xs by rw [hxs]; exact nrm_pk q l)
      have T1 := Aside0.mk trivial
      obtain ⟨pr, hpr⟩ : ∃ pr, pr = pk q xs := ⟨_, rfl⟩
      have hprl : pr.length ≤ 3145728 := by have := pk_le q xs; rw [hpr]; have := HML.out; omega
      have HPR := Aside0.mk hpr
      obtain ⟨pn, hpn⟩ : ∃ pn, pn = pr.length := ⟨_, rfl⟩
      have HPN := Aside0.mk hpn
      have HPL := Aside0.mk (show pn ≤ 3145728 by omega)
      clear hxs hfl hnl hnr hm hCd hN2 hd hlt hi HO_3 hpr hpn hprl
      go_wp2_with (first | (go_at_call 22; go_must (refine (NormR wr (HG1.out.below HB.out) A n c l (Kd.C_below HC1.out HB.out) HN.out hc HWF.out (by omega)).mono ?_; rintro e w2 ⟨v2, rfl, p1, p2⟩; obtain ⟨A2, c2, e2, hc2, hC2⟩ := Kd.R_reads p1; rw [← HN2.out] at e2 hc2 hC2; subst e2; have HC2 := Aside0.mk hC2; have Hc2 := Aside0.mk hc2; have n0_ := Aside0.mk (below_step HB.out p2); have n1_ := Aside0.mk (Kd.C_below HCd.out p2); clear HB HCd p1 p2 hc2 hC2; have HB := n0_; have HCd := n1_; clear n0_ n1_)) | (go_at_call 37; have t := T1; clear T1 t; go_must (refine (PickP _ A2 N2 c2 (nrm l) HC2.out HN2.out Hc2.out (by have := HML2.out; omega) g q HQ.out ((HB.out.cell HGL.out).trans HQC.out)).mono ?_; rintro e w3 ⟨v3, rfl, p1, p2⟩; rw [HPK.out, ← HPR.out] at p1; obtain ⟨A3, c3, e3, hc3, hC3⟩ := Kd.R_reads p1; rw [← HPN.out] at e3 hc3 hC3; subst e3; have HC3 := Aside0.mk hC3; have Hc3 := Aside0.mk hc3; have n0_ := Aside0.mk (below_step HB.out p2); have n1_ := Aside0.mk (Kd.C_below HCd.out p2); clear HB HCd p1 p2 hc3 hC3; have HB := n0_; have HCd := n1_; clear n0_ n1_)) | (go_at_call 37; go_must (refine (PickP _ Ad m cd xs HCd.out HM.out hcd (by have := HML.out; omega) g q HQ.out ((HB.out.cell HGL.out).trans HQC.out)).mono ?_; rintro e w4 ⟨v4, rfl, p1, p2⟩; rw [← HPR.out] at p1; obtain ⟨A4, c4, e4, hc4, hC4⟩ := Kd.R_reads p1; rw [← HPN.out] at e4 hc4 hC4; subst e4; have HC4 := Aside0.mk hC4; have Hc4 := Aside0.mk hc4; have n0_ := Aside0.mk (below_step HB.out p2); have n1_ := Aside0.mk (Kd.C_below HC3.out p2); clear HB HC3 p1 p2 hc4 hC4; have HB := n0_; have HC3 := n1_; clear n0_ n1_)) | (go_at_call 21; go_must (refine (SameR _ A3 A4 pn c3 pn c4 pr pr HC3.out HPN.out Hc3.out HC4.out HPN.out Hc4.out (by have := HPL.out; omega) true (decide_eq_true rfl)).mono ?_; rintro e w5 ⟨rfl, p1⟩; have n0_ := Aside0.mk (below_step HB.out p1); clear HB p1; have HB := n0_; clear n0_)))
      go_ret
      exact ⟨rfl, below_then HB0.out HB0.out.size HB.out⟩
theorem wfq {q : Int} (h : (Lit.int .u8 q).wf = true) : 0 ≤ q ∧ q ≤ 255 := by
  simpa [Lit.wf, IntKind.min, IntKind.max, IntKind.signed, IntKind.bits] using h
end Go.Proofs.YtiggjbclbdikmaaDoor.Lst
namespace Go.Proofs.YtiggjbclbdikmaaDoor.X
open Go.RowKit Go.Proofs.YtiggjbclbdikmaaDoorW.PrintWords Go.Proofs.YtiggjbclbdikmaaDoor.Vp0
def tremalaw03_NormStable.f (l : List Int) (q : Int) : Option Bool := if Cn.ok32 l = true ∧ l.length ≤ 1048576 ∧ 0 ≤ q ∧ q ≤ 255 then some true else none
theorem tremalaw03_NormStable.calls (A0 : Option Addr) (c0 : Nat) (l0 : List Int) (q : Int) (r : Bool) (w : World) (hr0 : Kd.C (Kd.int .i32) w A0 l0.length l0) (hc0 : l0.length ≤ c0) (h : tremalaw03_NormStable.f l0 q = some r) (hG0 : Va.G w) :
  Calls Tryd.prog 11 #[.slice A0 l0.length c0, .int .u8 q] w fun e w' => e = .returned (.bool r) ∧ Below w.heap.size w w' := by
  unfold tremalaw03_NormStable.f at h
  split at h
  · rename_i hh
    cases Option.some.inj h
    exact Lst.stable w hG0 A0 l0 c0 hr0 hc0 (Cn.ok32_of hh.1) hh.2.1 q ⟨hh.2.2.1, hh.2.2.2⟩
  · cases h
theorem tremalaw03_NormStable.pure (l : List Int) (hwf : ∀ x ∈ l, (Lit.int .i32 x).wf = true) (hl : l.length ≤ 1048576) (q : Int) (hq : (Lit.int .u8 q).wf = true) : tremalaw03_NormStable.f l q = some true := by
  have := Lst.wfq hq
  unfold tremalaw03_NormStable.f
  rw [if_pos ⟨Cn.ok32_mk (fun x hx => wf32 (hwf x hx)), hl, this.1, this.2⟩]
end Go.Proofs.YtiggjbclbdikmaaDoor.X
namespace Go.Proofs.YtiggjbclbdikmaaDoor.Lsw
set_option linter.unusedVariables false
set_option linter.unusedSimpArgs false
open Go.Proofs.YtiggjbclbdikmaaDoor.Vd (decU)
open Go.Proofs.YtiggjbclbdikmaaDoor.Fr (sure sure_of K3 T3)
open Go.RowKit Go.Proofs.YtiggjbclbdikmaaDoorW.PrintWords Go.Proofs.YtiggjbclbdikmaaDoor.Hp Go.Proofs.YtiggjbclbdikmaaDoor.Fm Go.Proofs.YtiggjbclbdikmaaDoor.Ev0 Go.Proofs.YtiggjbclbdikmaaDoor.X Go.Proofs.YtiggjbclbdikmaaDoor.Va Go.Proofs.YtiggjbclbdikmaaDoor.Vp0 Go.Proofs.YtiggjbclbdikmaaDoor.Vr Go.Proofs.YtiggjbclbdikmaaDoor.Vu Go.Proofs.YtiggjbclbdikmaaDoor.Na Go.Proofs.YtiggjbclbdikmaaDoor.Oa Go.Proofs.YtiggjbclbdikmaaDoor.Cn
theorem rem_cut (cut : Int) (n : Nat) (hn : n ≤ 1048576) : ∃ N : Nat, N ≤ n ∧ wrap64 ((IntKind.u64.wrap cut).tmod ((n : Int) + 1)) = (N : Int) := by
  have e : IntKind.u64.wrap cut = cut % 18446744073709551616 := by simp [IntKind.wrap, IntKind.bits, IntKind.signed]
  have h1 : 0 ≤ IntKind.u64.wrap cut := by rw [e]; exact Int.emod_nonneg _ (by decide)
  have h2 := Int.tmod_lt_of_pos (IntKind.u64.wrap cut) (show (0 : Int) < (n : Int) + 1 by omega)
  have h3 := Int.tmod_nonneg ((n : Int) + 1) h1
  refine ⟨((IntKind.u64.wrap cut).tmod ((n : Int) + 1)).toNat, by omega, ?_⟩
  unfold wrap64
  omega
theorem sep_lit {w0 w : World} {L : List Th} (h : Sep w0 L w) (cs : Array Value) (xs : List Int) (hc : cs.toList = nums .i32 xs) (hm : xs.length ≤ 9223372036854775807) :
    Sep w0 (L ++ [rowT K3 T3 w0.heap.size (.slice (some ⟨w.heap.size, 0, none⟩) xs.length xs.length) xs]) (w.alloc (.cells cs T3)) := by
  have hb := h.below
  have h2 := World.ownsRow_lit (base := w.heap.size) (e := T3) (size := 1) w cs xs.length (Nat.le_refl _) (by simpa [maxLen] using hm) (by rw [← Array.length_toList, hc]; simp [nums])
  rw [hc] at h2
  have h3 : K3.R T3 (w.alloc (.cells cs T3)) w.heap.size (fun b => w.heap.size ≤ b) (.slice (some ⟨w.heap.size, 0, none⟩) xs.length xs.length) xs :=
    Kd.R_of_own (enc := Value.int .i32) (h1 := fun _ => rfl) h2 (fun k hk => own_base h2 k hk)
  exact h.new (rowT K3 T3 w0.heap.size _ xs) (Kd.R_lower h3 hb.size) (fun b hb => hb) (below_alloc (Below.refl _ _) _)
theorem lit_step {P : Program} {ops : Array Oper} {o : Oper} {a : Act} {Kc : Act → World → Prop} {Q : Exit → Act → World → Prop} {w0 W : World} {L : List Th} (S : Sep w0 L W) (hw : Region.wanted o (yielded ops a.tmps) = true) {N : Tmp} (hd : o.dst = some N) (xs : List Int)
    (hrun : (execOp a.eval o).run P W = .ok (.value (.slice (some ⟨W.heap.size, 0, none⟩) xs.length xs.length)) (W.alloc (.cells (nums .i32 xs).toArray T3))) (hm : xs.length ≤ 9223372036854775807)
    (h : ∀ (g : Nat) (w1 : World), Sep w0 (L ++ [rowT K3 T3 w0.heap.size (.slice (some ⟨g, 0, none⟩) xs.length xs.length) xs]) w1 → Kc (a.put o.dst (.slice (some ⟨g, 0, none⟩) xs.length xs.length)) w1) :
    if Region.wanted o (yielded ops a.tmps) = true then Oper.wp P o a W Kc Q else Kc (a.put o.dst undef) W :=
  event_step hw hrun (h _ _ (sep_lit S _ xs (by simp) hm))
theorem reads' {α : Type} {d : Kd α} {e base : Nat} {A : Option Addr} {m c : Nat} {xs : List α} {w0 w : World} {L : List Th} (h : Sep w0 L w) (i : Nat) (hi : L[i]? = some (rowT d e base (.slice A m c) xs)) : m = xs.length ∧ m ≤ c ∧ d.C w A m xs := by
  obtain ⟨ok, h1⟩ := h.one i _ hi
  have := Kd.R_reads' (show d.R e w base ok (.slice A m c) xs from h1)
  exact ⟨this.1, this.2.1, this.1 ▸ this.2.2⟩
theorem all32 {l : List Int} {a b : Int} {N : Nat} {z : Int} (hl : ∀ x ∈ l, I32 x) (ha : I32 a) (hb : I32 b) (hz : z ∈ (l.take N ++ [a, b]) ++ l.drop N) : I32 z := by
  rcases List.mem_append.1 hz with h | h
  · rcases List.mem_append.1 h with h | h
    · exact hl z (List.mem_of_mem_take h)
    · rcases List.mem_cons.1 h with rfl | h
      · exact ha
      · rw [List.mem_singleton.1 h]; exact hb
  · exact hl z (List.mem_of_mem_drop h)
theorem one_of {l : List Int} (h : l.length = 1) : ∃ x, l = [x] := List.length_eq_one_iff.1 h
theorem ClsQ (x : Int) (w : World) : Calls Tryd.prog 29 #[.int .i32 x] w fun e w' => e = .returned (.int .i64 (cls x)) ∧ ∃ m, w' = w.drewN m := by
  obtain ⟨k, hk⟩ := Ev.rounds (clsEv x)
  exact (tremaref02_Class.calls k x _ w hk).mono fun _ _ hd => ⟨hd.1, hd.2.out⟩
theorem add0 (a : Addr) : a.add 0 = a := by cases a; simp [Addr.add]
theorem ins_comm (x y : Int) (hx : cls x ≠ 0) (hy : cls y ≠ 0) (hxy : cls x ≠ cls y) : ∀ r, ins x (ins y r) = ins y (ins x r)
  | [] => by
    by_cases h : cls x < cls y
    · have h2 : ¬ cls y < cls x := by omega
      simp only [ins, h, h2, hx, hy, ne_eq, not_false_eq_true, and_true, and_false, if_true, if_false]
    · have h2 : cls y < cls x := by omega
      simp only [ins, h, h2, hx, hy, ne_eq, not_false_eq_true, and_true, and_false, if_true, if_false]
  | z :: r => by
    have ih := ins_comm x y hx hy hxy r
    by_cases h1 : cls x < cls z
    · by_cases h2 : cls y < cls z
      · simp only [ins, h1, h2, hx, hy, ne_eq, not_false_eq_true, and_true, and_false, if_true, if_false, ih]
      · have h3 : cls x < cls y := by omega
        simp only [ins, h1, h2, h3, hx, hy, ne_eq, not_false_eq_true, and_true, and_false, if_true, if_false]
    · by_cases h2 : cls y < cls z
      · have h3 : cls y < cls x := by omega
        simp only [ins, h1, h2, h3, hx, hy, ne_eq, not_false_eq_true, and_true, and_false, if_true, if_false]
      · by_cases h3 : cls x < cls y
        · have h4 : ¬ cls y < cls x := by omega
          simp only [ins, h1, h2, h3, h4, hx, hy, ne_eq, not_false_eq_true, and_true, and_false, if_true, if_false]
        · have h4 : cls y < cls x := by omega
          simp only [ins, h1, h2, h3, h4, hx, hy, ne_eq, not_false_eq_true, and_true, and_false, if_true, if_false]
theorem ord_swap (F H : List Int) (x y : Int) (hx : cls x ≠ 0) (hy : cls y ≠ 0) (hxy : cls x ≠ cls y) : ordL (F ++ [x, y] ++ H) = ordL (F ++ [y, x] ++ H) := by
  unfold ordL ordR
  simp only [List.foldl_append, List.foldl_cons, List.foldl_nil]
  rw [ins_comm y x hy hx (Ne.symm hxy)]
theorem pk_app (q : Int) (a b : List Int) : Lst.pk q (a ++ b) = Lst.pk q a ++ Lst.pk q b := List.filter_append ..
theorem ord_differ (F H : List Int) (x y : Int) (h : cls x = 0 ∨ cls y = 0 ∨ cls x = cls y) (he : ordL (F ++ [x, y] ++ H) = ordL (F ++ [y, x] ++ H)) : x = y := by
  obtain ⟨q, hqx, hqy⟩ : ∃ q, (cls x == 0 || cls x == q) = true ∧ (cls y == 0 || cls y == q) = true := by
    rcases h with h | h | h
    · exact ⟨cls y, by simp [h], by simp⟩
    · exact ⟨cls x, by simp, by simp [h]⟩
    · exact ⟨cls x, by simp, by simp [h]⟩
  have h1 := congrArg (Lst.pk q) he
  rw [Lst.ordL_pk, Lst.ordL_pk, pk_app, pk_app, pk_app, pk_app] at h1
  have h2 := List.append_cancel_left (List.append_cancel_right h1)
  have e : ∀ a b : Int, (cls a == 0 || cls a == q) = true → (cls b == 0 || cls b == q) = true → Lst.pk q [a, b] = [a, b] := fun a b ha hb => by
    unfold Lst.pk
    simp only [List.filter_cons, List.filter_nil, ha, hb, if_true]
  rw [e x y hqx hqy, e y x hqy hqx] at h2
  exact (List.cons.inj h2).1
theorem swap_law (l : List Int) (N : Nat) (a b pa pb : Int) (ha : decU a = [pa]) (hb : decU b = [pb]) :
    (cls pa ≠ 0 ∧ cls pb ≠ 0 ∧ cls pa ≠ cls pb → decide (nrm ((l.take N ++ [a, b]) ++ l.drop N) = nrm ((l.take N ++ [b, a]) ++ l.drop N)) = true) ∧
    (cls pa = 0 ∨ cls pb = 0 ∨ cls pa = cls pb → decide (nrm ((l.take N ++ [a, b]) ++ l.drop N) = nrm ((l.take N ++ [b, a]) ++ l.drop N)) = (pa == pb)) := by
  have e1 : nrm ((l.take N ++ [a, b]) ++ l.drop N) = ordL (flat (l.take N) ++ [pa, pb] ++ flat (l.drop N)) := by
    unfold nrm
    rw [flat_app, flat_app, flat_cons, flat_cons, ha, hb]; rfl
  have e2 : nrm ((l.take N ++ [b, a]) ++ l.drop N) = ordL (flat (l.take N) ++ [pb, pa] ++ flat (l.drop N)) := by
    unfold nrm
    rw [flat_app, flat_app, flat_cons, flat_cons, ha, hb]; rfl
  rw [e1, e2]
  refine ⟨fun h => decide_eq_true (ord_swap _ _ pa pb h.1 h.2.1 h.2.2), fun h => ?_⟩
  rw [Bool.eq_iff_iff, decide_eq_true_eq, beq_iff_eq]
  exact ⟨fun he => ord_differ _ _ pa pb h he, fun he => by rw [he]⟩
theorem cut2 (A : Option Addr) (l : List Int) (n c N : Nat) (hn : n = l.length) (hN : N ≤ n) (hc : n ≤ c) : ∃ A2 : Option Addr,
    (∀ W : World, (Instr.slice 22 (.slice A n c) none (some (.int .i64 (N : Int))) none).run Tryd.prog W = .ok (.slice A N c) W) ∧ (∀ W : World, (Instr.slice 22 (.slice A n c) (some (.int .i64 (N : Int))) none none).run Tryd.prog W = .ok (.slice A2 (n - N) (c - N)) W) ∧
    ∀ w : World, K3.C w A n l → K3.C w A N (l.take N) ∧ K3.C w A2 (n - N) (l.drop N) := by
  subst hn
  obtain ⟨i2, hi2, hsz2⟩ := Option.map_eq_some_iff.1 info21
  have hsz2 : i2.size = 1 := by have := congrArg (fun q => q.2.1) hsz2; simpa using this
  obtain ⟨hct, hAt, hct2⟩ := print_take_of (P := Tryd.prog) (Value.int .i32) 0 22 21 .i64 Tryd.underlying22 hi2 hsz2 A c l (N : Int) (by omega) (by omega) (by omega)
  obtain ⟨A2, hcd, hAd, hcd2⟩ := print_drop_of (P := Tryd.prog) (Value.int .i32) 0 22 21 .i64 Tryd.underlying22 hi2 hsz2 A c l (N : Int) (by omega) (by omega) (by omega)
  simp only [Int.toNat_natCast] at hct hAt hcd hAd
  have e1 : (l.take N).length = N := by rw [List.length_take]; omega
  have e2 : (l.drop N).length = l.length - N := List.length_drop
  rw [e1] at hct hAt
  rw [e2] at hcd hAd
  exact ⟨A2, hct, hcd, fun w h => ⟨Kd.C_of_reads (h1 := fun _ => rfl) (hAt w (Kd.reads_of_C h)), Kd.C_of_reads (h1 := fun _ => rfl) (hAd w (Kd.reads_of_C h))⟩⟩
set_option maxRecDepth 100000 in
set_option maxHeartbeats 4000000 in
theorem swaps (w : World) (hG : G w) (A : Option Addr) (l : List Int) (c : Nat) (hC : K3.C w A l.length l) (hc : l.length ≤ c) (hwf : ∀ x ∈ l, I32 x) (hl : l.length ≤ 1048576) (cut : Int) (hcut : -9223372036854775808 ≤ cut ∧ cut ≤ 9223372036854775807) (a b : Int) (ha : I32 a) (hb : I32 b) :
    Calls Tryd.prog 8 #[.slice A l.length c, .int .i64 cut, .agg #[.int .i32 a, .int .i32 b]] w fun e w' => e = .returned (.bool true) ∧ Below w.heap.size w w' := by
  obtain ⟨N0, hN0, hrem⟩ := rem_cut cut l.length hl
  obtain ⟨hcut1, hcut2⟩ := hcut
  obtain ⟨n, hn⟩ : ∃ n, n = l.length := ⟨_, rfl⟩
  rw [← hn] at hC hc hl hN0 hrem ⊢
  have HC := Aside0.mk hC
  have HN := Aside0.mk hn
  have HG := Aside0.mk hG
  have HWF := Aside0.mk hwf
  have HA := Aside0.mk ha
  have HB' := Aside0.mk hb
  have HRem := Aside0.mk hrem
  clear hC hn hG hwf ha hb hrem
  go_enter Tryd.func8, Tryd.ntmps8
  go_upto_region 3 with (first | (go_at_call 19; go_must (refine (Nf.fixedP (w.alloc (.cells #[.int .i32 a, .int .i32 b] 43)) (HG.out.below (below_alloc (Below.refl _ _) _))).mono ?_; rintro e w1 ⟨rfl, p1⟩; have H1 := Aside0.mk p1; clear p1)))
  have HB0 := Aside0.mk (show Below w.heap.size w w1 from Nf.up H1.out)
  have hcell0 : w1.cell? ⟨w.heap.size, 0, none⟩ = some (.int .i32 a) := (H1.out.cell (p := ⟨w.heap.size, 0, none⟩) (by simp)).trans (blk_cell (heap_alloc_new w _) 0)
  have hcell1 : w1.cell? ⟨w.heap.size, 1, none⟩ = some (.int .i32 b) := (H1.out.cell (p := ⟨w.heap.size, 1, none⟩) (by simp)).trans (blk_cell (heap_alloc_new w _) 1)
  clear H1
  go_quiet (fail)
  have HB1 := Aside0.mk (below_step HB0.out ((Drawn0.refl w1).step nq).below)
  clear hcell0 hcell1 HB0
  generalize w1.drewN nq = w0 at HB1 ⊢
  go_upto_if 24 with (fail)
  go_cut [9] (fun v9 wc => ∃ N : Nat, N ≤ n ∧ v9 = .int .i64 N ∧ Aside0 (Below w.heap.size w wc))
  case first =>
    by_cases hn0 : 0 < n
    · have hd : decide (0 < n) = true := decide_eq_true hn0
      go_wp2
      go_meet
      case rel => exact ⟨N0, hN0, by rw [HRem.out], HB1⟩
    · have hd : decide (0 < n) = false := decide_eq_false hn0
      go_wp2
      go_meet
      case rel => exact ⟨0, Nat.zero_le _, rfl, HB1⟩
  case rest =>
    clear HRem HB1 hN0
    obtain ⟨N, hNn, rfl, HB1⟩ := hcut
    obtain ⟨A2, hct, hcd, hCC⟩ := cut2 A l n c N HN.out hNn hc
    obtain ⟨NN, hNN⟩ : ∃ NN, NN = n - N := ⟨_, rfl⟩
    obtain ⟨cN, hcN⟩ : ∃ cN, cN = c - N := ⟨_, rfl⟩
    rw [← hNN] at hcd hCC
    rw [← hcN] at hcd
    obtain ⟨x, hx⟩ : ∃ x, x = (l.take N ++ [a, b]) ++ l.drop N := ⟨_, rfl⟩
    have HX := Aside0.mk hx
    obtain ⟨y, hy⟩ : ∃ y, y = (l.take N ++ [b, a]) ++ l.drop N := ⟨_, rfl⟩
    have HY := Aside0.mk hy
    have HCC := Aside0.mk hCC
    have HNL := Aside0.mk (show (l.take N).length = N by rw [List.length_take, ← HN.out]; omega)
    have HNLE := Aside0.mk (show NN + N ≤ 1048576 by omega)
    clear hx hy hCC hNN hcN
    go_upto_region 7 with (fail)
    go_cut [10] (fun v10 wd => ∃ v : Value, v10 = v ∧ Aside0 (K3.R T3 wd wc.heap.size (fun _ => True) v x) ∧ Aside0 (Below wc.heap.size wc wd))
    case first =>
      obtain ⟨wB, hwB⟩ : ∃ wB, wB = wc := ⟨_, rfl⟩
      subst hwB
      have HC := Aside0.mk (Kd.C_below HC.out HB1.out)
      have S := Aside0.mk (Sep.start (Below.refl wB.heap.size wB) : Sep wB [] wB)
      refine wp_region_held_drew (S := fun W => Below wB.heap.size wB W) (by kernel_rfl) (S.out.later ((Drawn0.refl wB).step 1).below).below (fun hS => ?_)
      have S := Aside0.mk (S.out.later ((Drawn0.refl wB).step 1).below)
      refine wpAnyH_take (i := 1) (oi := { dst := some 34, op := _, type := _, pos := _, after := _, guard := _ }) (v := .slice A n c) rfl (by kernel_rfl) (by kernel_rfl) (by kernel_rfl) (fun _ _ _ h => h) (Or.inl ⟨by rfl, fun W hW => ?_⟩) hS ?_
      · (go_simp)
      try simp only [Act.put, List.setIfInBounds_toArray, List.set_cons_zero, List.set_cons_succ]
      refine wpAnyH_take (i := 2) (oi := { dst := some 35, op := _, type := _, pos := _, after := _, guard := _ }) (v := .int .i64 (N : Int)) rfl (by kernel_rfl) (by kernel_rfl) (by kernel_rfl) (fun _ _ _ h => h) (Or.inl ⟨by rfl, fun W hW => ?_⟩) hS ?_
      · (go_simp)
      try simp only [Act.put, List.setIfInBounds_toArray, List.set_cons_zero, List.set_cons_succ]
      refine wpAnyH_take (i := 3) (oi := { dst := some 36, op := _, type := _, pos := _, after := _, guard := _ }) (v := .slice A N c) rfl (by kernel_rfl) (by kernel_rfl) (by kernel_rfl) (fun _ _ _ h => h) (Or.inl ⟨by rfl, fun W hW => ?_⟩) hS ?_
      · (go_simp)
      try simp only [Act.put, List.setIfInBounds_toArray, List.set_cons_zero, List.set_cons_succ]
      refine wpAnyH_take (i := 5) (oi := { dst := some 38, op := _, type := _, pos := _, after := _, guard := _ }) (v := .int .i32 a) rfl (by kernel_rfl) (by kernel_rfl) (by kernel_rfl) (fun _ _ _ h => h) (Or.inl ⟨by rfl, fun W hW => ?_⟩) hS ?_
      · (go_simp)
      try simp only [Act.put, List.setIfInBounds_toArray, List.set_cons_zero, List.set_cons_succ]
      refine wpAnyH_take (i := 6) (oi := { dst := some 39, op := _, type := _, pos := _, after := _, guard := _ }) (v := .int .i32 b) rfl (by kernel_rfl) (by kernel_rfl) (by kernel_rfl) (fun _ _ _ h => h) (Or.inl ⟨by rfl, fun W hW => ?_⟩) hS ?_
      · (go_simp)
      try simp only [Act.put, List.setIfInBounds_toArray, List.set_cons_zero, List.set_cons_succ]
      refine wpAnyH_take (i := 9) (oi := { dst := some 42, op := _, type := _, pos := _, after := _, guard := _ }) (v := .slice A n c) rfl (by kernel_rfl) (by kernel_rfl) (by kernel_rfl) (fun _ _ _ h => h) (Or.inl ⟨by rfl, fun W hW => ?_⟩) hS ?_
      · (go_simp)
      try simp only [Act.put, List.setIfInBounds_toArray, List.set_cons_zero, List.set_cons_succ]
      refine wpAnyH_take (i := 10) (oi := { dst := some 43, op := _, type := _, pos := _, after := _, guard := _ }) (v := .int .i64 (N : Int)) rfl (by kernel_rfl) (by kernel_rfl) (by kernel_rfl) (fun _ _ _ h => h) (Or.inl ⟨by rfl, fun W hW => ?_⟩) hS ?_
      · (go_simp)
      try simp only [Act.put, List.setIfInBounds_toArray, List.set_cons_zero, List.set_cons_succ]
      refine wpAnyH_take (i := 11) (oi := { dst := some 44, op := _, type := _, pos := _, after := _, guard := _ }) (v := .slice A2 NN cN) rfl (by kernel_rfl) (by kernel_rfl) (by kernel_rfl) (fun _ _ _ h => h) (Or.inl ⟨by rfl, fun W hW => ?_⟩) hS ?_
      · (go_simp)
      try simp only [Act.put, List.setIfInBounds_toArray, List.set_cons_zero, List.set_cons_succ]
      refine wpAnyH_ready (rs := [0, 7]) (by kernel_rfl) (by simp) ?_
      refine AllReadyH.cons (o := { dst := some 33, op := _, type := _, pos := _, after := _, guard := _ }) rfl (fun K hK => ?_) (AllReadyH.cons (o := { dst := some 40, op := _, type := _, pos := _, after := _, guard := _ }) rfl (fun K hK => ?_) AllReadyH.nil)
      · refine lit_step S.out (by rfl) rfl [] (by first | (go_simp; done) | (go_simp; rfl)) (by simp) (fun g_ w1_ hs_ => ?_)
        have S' := Aside0.mk hs_
        refine hK.out _ _ S'.out.below (fun hS2 => ?_)
        clear hs_ hK K hS S
        have hS := hS2
        have S := S'
        clear hS2 S'
        try simp only [Act.put, List.setIfInBounds_toArray, List.set_cons_zero, List.set_cons_succ]
        refine wpAnyH_ready (rs := [4, 7]) (by kernel_rfl) (by simp) ?_
        refine AllReadyH.cons (o := { dst := some 37, op := _, type := _, pos := _, after := _, guard := _ }) rfl (fun K hK => ?_) (AllReadyH.cons (o := { dst := some 40, op := _, type := _, pos := _, after := _, guard := _ }) rfl (fun K hK => ?_) AllReadyH.nil)
        · obtain ⟨ok, hR, hf, hN⟩ := S.out.row 0 rfl
          refine Kd.R_append_rows_step K3 (Rr := K3.K _) (w0 := wB) wB.heap.size (by rfl) (.tmp 33) (.tmp 36) 22 T3 (.int .i32 0) 4 rfl Tryd.underlying22 info21 rfl (by decide) (by decide) _ _ (l.take N) _ _ _ ok (fun _ => False) rfl rfl hR ((HCC.out _ (Kd.C_below HC.out S.out.below)).1) (fun _ _ h => h) (fun _ h => h.elim) hf S.out.below S.out.below.size (by (have := HNLE.out; have := HNL.out; simp <;> omega)) (fun v1 w1 ho hb hg hat => ?_)
          have S' := Aside0.mk (hN v1 w1 _ ho hg)
          refine hK.out _ _ S'.out.below (fun hS2 => ?_)
          clear hR hf hN ho hb hg hat hK K hS S
          have hS := hS2
          have S := S'
          clear hS2 S'
          try simp only [Act.put, List.setIfInBounds_toArray, List.set_cons_zero, List.set_cons_succ]
          refine wpAnyH_ready (rs := [7]) (by kernel_rfl) (by simp) ?_
          refine AllReadyH.cons (o := { dst := some 40, op := _, type := _, pos := _, after := _, guard := _ }) rfl (fun K hK => ?_) AllReadyH.nil
          refine lit_step S.out (by rfl) rfl [a, b] (by first | (go_simp; done) | (go_simp; rfl)) (by simp) (fun g_ w1_ hs_ => ?_)
          have S' := Aside0.mk hs_
          refine hK.out _ _ S'.out.below (fun hS2 => ?_)
          clear hs_ hK K hS S
          have hS := hS2
          have S := S'
          clear hS2 S'
          try simp only [Act.put, List.setIfInBounds_toArray, List.set_cons_zero, List.set_cons_succ]
          refine wpAnyH_ready (rs := [8]) (by kernel_rfl) (by simp) ?_
          refine AllReadyH.cons (o := { dst := some 41, op := _, type := _, pos := _, after := _, guard := _ }) rfl (fun K hK => ?_) AllReadyH.nil
          obtain ⟨ok, hR, hf, hN⟩ := S.out.row 0 rfl
          refine Kd.R_append_rows_step K3 (Rr := K3.K _) (w0 := wB) wB.heap.size (by rfl) (.tmp 37) (.tmp 40) 22 T3 (.int .i32 0) 4 rfl Tryd.underlying22 info21 rfl (by decide) (by decide) _ _ [a, b] _ _ _ ok (fun _ => False) rfl rfl hR ((reads' S.out 1 rfl).2.2) (fun _ _ h => h) (fun _ h => h.elim) hf S.out.below S.out.below.size (by (have := HNLE.out; have := HNL.out; simp <;> omega)) (fun v1 w1 ho hb hg hat => ?_)
          have S' := Aside0.mk (hN v1 w1 _ ho hg)
          refine hK.out _ _ S'.out.below (fun hS2 => ?_)
          clear hR hf hN ho hb hg hat hK K hS S
          have hS := hS2
          have S := S'
          clear hS2 S'
          try simp only [Act.put, List.setIfInBounds_toArray, List.set_cons_zero, List.set_cons_succ]
          refine wpAnyH_ready (rs := [12]) (by kernel_rfl) (by simp) ?_
          refine AllReadyH.cons (o := { dst := some 45, op := _, type := _, pos := _, after := _, guard := _ }) rfl (fun K hK => ?_) AllReadyH.nil
          obtain ⟨ok, hR, hf, hN⟩ := S.out.row 0 rfl
          refine Kd.R_append_rows_step K3 (Rr := K3.K _) (w0 := wB) wB.heap.size (by rfl) (.tmp 41) (.tmp 44) 22 T3 (.int .i32 0) 4 rfl Tryd.underlying22 info21 rfl (by decide) (by decide) _ _ (l.drop N) _ _ _ ok (fun _ => False) rfl rfl hR ((HCC.out _ (Kd.C_below HC.out S.out.below)).2) (fun _ _ h => h) (fun _ h => h.elim) hf S.out.below S.out.below.size (by (have := HNLE.out; have := HNL.out; simp <;> omega)) (fun v1 w1 ho hb hg hat => ?_)
          have S' := Aside0.mk (hN v1 w1 _ ho hg)
          refine hK.out _ _ S'.out.below (fun hS2 => ?_)
          clear hR hf hN ho hb hg hat hK K hS S
          have hS := hS2
          have S := S'
          clear hS2 S'
          try simp only [Act.put, List.setIfInBounds_toArray, List.set_cons_zero, List.set_cons_succ]
          refine wpAnyH_take (i := 13) (oi := { dst := some 10, op := _, type := _, pos := _, after := _, guard := _ }) (v := v1) rfl (by kernel_rfl) (by kernel_rfl) (by kernel_rfl) (fun _ _ _ h => h) (Or.inl ⟨by rfl, fun W hW => ?_⟩) hS ?_
          · (go_simp)
          try simp only [Act.put, List.setIfInBounds_toArray, List.set_cons_zero, List.set_cons_succ]
          refine wpAnyH_done (by kernel_rfl) ?_ _
          go_wp2
          go_meet
          case rel =>
            obtain ⟨ok, h⟩ := S.out.one 0 _ rfl
            exact ⟨_, rfl, ⟨by rw [HX.out]; exact Kd.R_mono h (fun _ _ => trivial)⟩, ⟨S.out.below⟩⟩
        · refine lit_step S.out (by rfl) rfl [a, b] (by first | (go_simp; done) | (go_simp; rfl)) (by simp) (fun g_ w1_ hs_ => ?_)
          have S' := Aside0.mk hs_
          refine hK.out _ _ S'.out.below (fun hS2 => ?_)
          clear hs_ hK K hS S
          have hS := hS2
          have S := S'
          clear hS2 S'
          try simp only [Act.put, List.setIfInBounds_toArray, List.set_cons_zero, List.set_cons_succ]
          refine wpAnyH_ready (rs := [4]) (by kernel_rfl) (by simp) ?_
          refine AllReadyH.cons (o := { dst := some 37, op := _, type := _, pos := _, after := _, guard := _ }) rfl (fun K hK => ?_) AllReadyH.nil
          obtain ⟨ok, hR, hf, hN⟩ := S.out.row 0 rfl
          refine Kd.R_append_rows_step K3 (Rr := K3.K _) (w0 := wB) wB.heap.size (by rfl) (.tmp 33) (.tmp 36) 22 T3 (.int .i32 0) 4 rfl Tryd.underlying22 info21 rfl (by decide) (by decide) _ _ (l.take N) _ _ _ ok (fun _ => False) rfl rfl hR ((HCC.out _ (Kd.C_below HC.out S.out.below)).1) (fun _ _ h => h) (fun _ h => h.elim) hf S.out.below S.out.below.size (by (have := HNLE.out; have := HNL.out; simp <;> omega)) (fun v1 w1 ho hb hg hat => ?_)
          have S' := Aside0.mk (hN v1 w1 _ ho hg)
          refine hK.out _ _ S'.out.below (fun hS2 => ?_)
          clear hR hf hN ho hb hg hat hK K hS S
          have hS := hS2
          have S := S'
          clear hS2 S'
          try simp only [Act.put, List.setIfInBounds_toArray, List.set_cons_zero, List.set_cons_succ]
          refine wpAnyH_ready (rs := [8]) (by kernel_rfl) (by simp) ?_
          refine AllReadyH.cons (o := { dst := some 41, op := _, type := _, pos := _, after := _, guard := _ }) rfl (fun K hK => ?_) AllReadyH.nil
          obtain ⟨ok, hR, hf, hN⟩ := S.out.row 0 rfl
          refine Kd.R_append_rows_step K3 (Rr := K3.K _) (w0 := wB) wB.heap.size (by rfl) (.tmp 37) (.tmp 40) 22 T3 (.int .i32 0) 4 rfl Tryd.underlying22 info21 rfl (by decide) (by decide) _ _ [a, b] _ _ _ ok (fun _ => False) rfl rfl hR ((reads' S.out 1 rfl).2.2) (fun _ _ h => h) (fun _ h => h.elim) hf S.out.below S.out.below.size (by (have := HNLE.out; have := HNL.out; simp <;> omega)) (fun v1 w1 ho hb hg hat => ?_)
          have S' := Aside0.mk (hN v1 w1 _ ho hg)
          refine hK.out _ _ S'.out.below (fun hS2 => ?_)
          clear hR hf hN ho hb hg hat hK K hS S
          have hS := hS2
          have S := S'
          clear hS2 S'
          try simp only [Act.put, List.setIfInBounds_toArray, List.set_cons_zero, List.set_cons_succ]
          refine wpAnyH_ready (rs := [12]) (by kernel_rfl) (by simp) ?_
          refine AllReadyH.cons (o := { dst := some 45, op := _, type := _, pos := _, after := _, guard := _ }) rfl (fun K hK => ?_) AllReadyH.nil
          obtain ⟨ok, hR, hf, hN⟩ := S.out.row 0 rfl
          refine Kd.R_append_rows_step K3 (Rr := K3.K _) (w0 := wB) wB.heap.size (by rfl) (.tmp 41) (.tmp 44) 22 T3 (.int .i32 0) 4 rfl Tryd.underlying22 info21 rfl (by decide) (by decide) _ _ (l.drop N) _ _ _ ok (fun _ => False) rfl rfl hR ((HCC.out _ (Kd.C_below HC.out S.out.below)).2) (fun _ _ h => h) (fun _ h => h.elim) hf S.out.below S.out.below.size (by (have := HNLE.out; have := HNL.out; simp <;> omega)) (fun v1 w1 ho hb hg hat => ?_)
          have S' := Aside0.mk (hN v1 w1 _ ho hg)
          refine hK.out _ _ S'.out.below (fun hS2 => ?_)
          clear hR hf hN ho hb hg hat hK K hS S
          have hS := hS2
          have S := S'
          clear hS2 S'
          try simp only [Act.put, List.setIfInBounds_toArray, List.set_cons_zero, List.set_cons_succ]
          refine wpAnyH_take (i := 13) (oi := { dst := some 10, op := _, type := _, pos := _, after := _, guard := _ }) (v := v1) rfl (by kernel_rfl) (by kernel_rfl) (by kernel_rfl) (fun _ _ _ h => h) (Or.inl ⟨by rfl, fun W hW => ?_⟩) hS ?_
          · (go_simp)
          try simp only [Act.put, List.setIfInBounds_toArray, List.set_cons_zero, List.set_cons_succ]
          refine wpAnyH_done (by kernel_rfl) ?_ _
          go_wp2
          go_meet
          case rel =>
            obtain ⟨ok, h⟩ := S.out.one 0 _ rfl
            exact ⟨_, rfl, ⟨by rw [HX.out]; exact Kd.R_mono h (fun _ _ => trivial)⟩, ⟨S.out.below⟩⟩
      · refine lit_step S.out (by rfl) rfl [a, b] (by first | (go_simp; done) | (go_simp; rfl)) (by simp) (fun g_ w1_ hs_ => ?_)
        have S' := Aside0.mk hs_
        refine hK.out _ _ S'.out.below (fun hS2 => ?_)
        clear hs_ hK K hS S
        have hS := hS2
        have S := S'
        clear hS2 S'
        try simp only [Act.put, List.setIfInBounds_toArray, List.set_cons_zero, List.set_cons_succ]
        refine wpAnyH_ready (rs := [0]) (by kernel_rfl) (by simp) ?_
        refine AllReadyH.cons (o := { dst := some 33, op := _, type := _, pos := _, after := _, guard := _ }) rfl (fun K hK => ?_) AllReadyH.nil
        refine lit_step S.out (by rfl) rfl [] (by first | (go_simp; done) | (go_simp; rfl)) (by simp) (fun g_ w1_ hs_ => ?_)
        have S' := Aside0.mk hs_
        refine hK.out _ _ S'.out.below (fun hS2 => ?_)
        clear hs_ hK K hS S
        have hS := hS2
        have S := S'
        clear hS2 S'
        try simp only [Act.put, List.setIfInBounds_toArray, List.set_cons_zero, List.set_cons_succ]
        refine wpAnyH_ready (rs := [4]) (by kernel_rfl) (by simp) ?_
        refine AllReadyH.cons (o := { dst := some 37, op := _, type := _, pos := _, after := _, guard := _ }) rfl (fun K hK => ?_) AllReadyH.nil
        obtain ⟨ok, hR, hf, hN⟩ := S.out.row 1 rfl
        refine Kd.R_append_rows_step K3 (Rr := K3.K _) (w0 := wB) wB.heap.size (by rfl) (.tmp 33) (.tmp 36) 22 T3 (.int .i32 0) 4 rfl Tryd.underlying22 info21 rfl (by decide) (by decide) _ _ (l.take N) _ _ _ ok (fun _ => False) rfl rfl hR ((HCC.out _ (Kd.C_below HC.out S.out.below)).1) (fun _ _ h => h) (fun _ h => h.elim) hf S.out.below S.out.below.size (by (have := HNLE.out; have := HNL.out; simp <;> omega)) (fun v1 w1 ho hb hg hat => ?_)
        have S' := Aside0.mk (hN v1 w1 _ ho hg)
        refine hK.out _ _ S'.out.below (fun hS2 => ?_)
        clear hR hf hN ho hb hg hat hK K hS S
        have hS := hS2
        have S := S'
        clear hS2 S'
        try simp only [Act.put, List.setIfInBounds_toArray, List.set_cons_zero, List.set_cons_succ]
        refine wpAnyH_ready (rs := [8]) (by kernel_rfl) (by simp) ?_
        refine AllReadyH.cons (o := { dst := some 41, op := _, type := _, pos := _, after := _, guard := _ }) rfl (fun K hK => ?_) AllReadyH.nil
        obtain ⟨ok, hR, hf, hN⟩ := S.out.row 1 rfl
        refine Kd.R_append_rows_step K3 (Rr := K3.K _) (w0 := wB) wB.heap.size (by rfl) (.tmp 37) (.tmp 40) 22 T3 (.int .i32 0) 4 rfl Tryd.underlying22 info21 rfl (by decide) (by decide) _ _ [a, b] _ _ _ ok (fun _ => False) rfl rfl hR ((reads' S.out 0 rfl).2.2) (fun _ _ h => h) (fun _ h => h.elim) hf S.out.below S.out.below.size (by (have := HNLE.out; have := HNL.out; simp <;> omega)) (fun v1 w1 ho hb hg hat => ?_)
        have S' := Aside0.mk (hN v1 w1 _ ho hg)
        refine hK.out _ _ S'.out.below (fun hS2 => ?_)
        clear hR hf hN ho hb hg hat hK K hS S
        have hS := hS2
        have S := S'
        clear hS2 S'
        try simp only [Act.put, List.setIfInBounds_toArray, List.set_cons_zero, List.set_cons_succ]
        refine wpAnyH_ready (rs := [12]) (by kernel_rfl) (by simp) ?_
        refine AllReadyH.cons (o := { dst := some 45, op := _, type := _, pos := _, after := _, guard := _ }) rfl (fun K hK => ?_) AllReadyH.nil
        obtain ⟨ok, hR, hf, hN⟩ := S.out.row 1 rfl
        refine Kd.R_append_rows_step K3 (Rr := K3.K _) (w0 := wB) wB.heap.size (by rfl) (.tmp 41) (.tmp 44) 22 T3 (.int .i32 0) 4 rfl Tryd.underlying22 info21 rfl (by decide) (by decide) _ _ (l.drop N) _ _ _ ok (fun _ => False) rfl rfl hR ((HCC.out _ (Kd.C_below HC.out S.out.below)).2) (fun _ _ h => h) (fun _ h => h.elim) hf S.out.below S.out.below.size (by (have := HNLE.out; have := HNL.out; simp <;> omega)) (fun v1 w1 ho hb hg hat => ?_)
        have S' := Aside0.mk (hN v1 w1 _ ho hg)
        refine hK.out _ _ S'.out.below (fun hS2 => ?_)
        clear hR hf hN ho hb hg hat hK K hS S
        have hS := hS2
        have S := S'
        clear hS2 S'
        try simp only [Act.put, List.setIfInBounds_toArray, List.set_cons_zero, List.set_cons_succ]
        refine wpAnyH_take (i := 13) (oi := { dst := some 10, op := _, type := _, pos := _, after := _, guard := _ }) (v := v1) rfl (by kernel_rfl) (by kernel_rfl) (by kernel_rfl) (fun _ _ _ h => h) (Or.inl ⟨by rfl, fun W hW => ?_⟩) hS ?_
        · (go_simp)
        try simp only [Act.put, List.setIfInBounds_toArray, List.set_cons_zero, List.set_cons_succ]
        refine wpAnyH_done (by kernel_rfl) ?_ _
        go_wp2
        go_meet
        case rel =>
          obtain ⟨ok, h⟩ := S.out.one 1 _ rfl
          exact ⟨_, rfl, ⟨by rw [HX.out]; exact Kd.R_mono h (fun _ _ => trivial)⟩, ⟨S.out.below⟩⟩
    case rest =>
      obtain ⟨_, rfl, HRx, HBx⟩ := hcut
      obtain ⟨Ax, cx, rfl, hcx, hCx⟩ := Kd.R_reads HRx.out
      obtain ⟨X, hX⟩ : ∃ X, X = x.length := ⟨_, rfl⟩
      rw [← hX] at hcx hCx ⊢
      have HXL := Aside0.mk hX
      have HCx := Aside0.mk hCx
      have HB1x := Aside0.mk (below_then HB1.out HB1.out.size HBx.out)
      clear HRx HBx hCx hX HB1
      go_upto_region 8 with (fail)
      go_cut [11] (fun v11 we => ∃ v : Value, v11 = v ∧ Aside0 (K3.R T3 we wc.heap.size (fun _ => True) v y) ∧ Aside0 (Below wc.heap.size wc we))
      case first =>
        obtain ⟨wB, hwB⟩ : ∃ wB, wB = wc := ⟨_, rfl⟩
        subst hwB
        have HC := Aside0.mk (Kd.C_below HC.out HB1x.out)
        have S := Aside0.mk (Sep.start (Below.refl wB.heap.size wB) : Sep wB [] wB)
        refine wp_region_held_drew (S := fun W => Below wB.heap.size wB W) (by kernel_rfl) (S.out.later ((Drawn0.refl wB).step 1).below).below (fun hS => ?_)
        have S := Aside0.mk (S.out.later ((Drawn0.refl wB).step 1).below)
        refine wpAnyH_take (i := 1) (oi := { dst := some 47, op := _, type := _, pos := _, after := _, guard := _ }) (v := .slice A n c) rfl (by kernel_rfl) (by kernel_rfl) (by kernel_rfl) (fun _ _ _ h => h) (Or.inl ⟨by rfl, fun W hW => ?_⟩) hS ?_
        · (go_simp)
        try simp only [Act.put, List.setIfInBounds_toArray, List.set_cons_zero, List.set_cons_succ]
        refine wpAnyH_take (i := 2) (oi := { dst := some 48, op := _, type := _, pos := _, after := _, guard := _ }) (v := .int .i64 (N : Int)) rfl (by kernel_rfl) (by kernel_rfl) (by kernel_rfl) (fun _ _ _ h => h) (Or.inl ⟨by rfl, fun W hW => ?_⟩) hS ?_
        · (go_simp)
        try simp only [Act.put, List.setIfInBounds_toArray, List.set_cons_zero, List.set_cons_succ]
        refine wpAnyH_take (i := 3) (oi := { dst := some 49, op := _, type := _, pos := _, after := _, guard := _ }) (v := .slice A N c) rfl (by kernel_rfl) (by kernel_rfl) (by kernel_rfl) (fun _ _ _ h => h) (Or.inl ⟨by rfl, fun W hW => ?_⟩) hS ?_
        · (go_simp)
        try simp only [Act.put, List.setIfInBounds_toArray, List.set_cons_zero, List.set_cons_succ]
        refine wpAnyH_take (i := 5) (oi := { dst := some 51, op := _, type := _, pos := _, after := _, guard := _ }) (v := .int .i32 b) rfl (by kernel_rfl) (by kernel_rfl) (by kernel_rfl) (fun _ _ _ h => h) (Or.inl ⟨by rfl, fun W hW => ?_⟩) hS ?_
        · (go_simp)
        try simp only [Act.put, List.setIfInBounds_toArray, List.set_cons_zero, List.set_cons_succ]
        refine wpAnyH_take (i := 6) (oi := { dst := some 52, op := _, type := _, pos := _, after := _, guard := _ }) (v := .int .i32 a) rfl (by kernel_rfl) (by kernel_rfl) (by kernel_rfl) (fun _ _ _ h => h) (Or.inl ⟨by rfl, fun W hW => ?_⟩) hS ?_
        · (go_simp)
        try simp only [Act.put, List.setIfInBounds_toArray, List.set_cons_zero, List.set_cons_succ]
        refine wpAnyH_take (i := 9) (oi := { dst := some 55, op := _, type := _, pos := _, after := _, guard := _ }) (v := .slice A n c) rfl (by kernel_rfl) (by kernel_rfl) (by kernel_rfl) (fun _ _ _ h => h) (Or.inl ⟨by rfl, fun W hW => ?_⟩) hS ?_
        · (go_simp)
        try simp only [Act.put, List.setIfInBounds_toArray, List.set_cons_zero, List.set_cons_succ]
        refine wpAnyH_take (i := 10) (oi := { dst := some 56, op := _, type := _, pos := _, after := _, guard := _ }) (v := .int .i64 (N : Int)) rfl (by kernel_rfl) (by kernel_rfl) (by kernel_rfl) (fun _ _ _ h => h) (Or.inl ⟨by rfl, fun W hW => ?_⟩) hS ?_
        · (go_simp)
        try simp only [Act.put, List.setIfInBounds_toArray, List.set_cons_zero, List.set_cons_succ]
        refine wpAnyH_take (i := 11) (oi := { dst := some 57, op := _, type := _, pos := _, after := _, guard := _ }) (v := .slice A2 NN cN) rfl (by kernel_rfl) (by kernel_rfl) (by kernel_rfl) (fun _ _ _ h => h) (Or.inl ⟨by rfl, fun W hW => ?_⟩) hS ?_
        · (go_simp)
        try simp only [Act.put, List.setIfInBounds_toArray, List.set_cons_zero, List.set_cons_succ]
        refine wpAnyH_ready (rs := [0, 7]) (by kernel_rfl) (by simp) ?_
        refine AllReadyH.cons (o := { dst := some 46, op := _, type := _, pos := _, after := _, guard := _ }) rfl (fun K hK => ?_) (AllReadyH.cons (o := { dst := some 53, op := _, type := _, pos := _, after := _, guard := _ }) rfl (fun K hK => ?_) AllReadyH.nil)
        · refine lit_step S.out (by rfl) rfl [] (by first | (go_simp; done) | (go_simp; rfl)) (by simp) (fun g_ w1_ hs_ => ?_)
          have S' := Aside0.mk hs_
          refine hK.out _ _ S'.out.below (fun hS2 => ?_)
          clear hs_ hK K hS S
          have hS := hS2
          have S := S'
          clear hS2 S'
          try simp only [Act.put, List.setIfInBounds_toArray, List.set_cons_zero, List.set_cons_succ]
          refine wpAnyH_ready (rs := [4, 7]) (by kernel_rfl) (by simp) ?_
          refine AllReadyH.cons (o := { dst := some 50, op := _, type := _, pos := _, after := _, guard := _ }) rfl (fun K hK => ?_) (AllReadyH.cons (o := { dst := some 53, op := _, type := _, pos := _, after := _, guard := _ }) rfl (fun K hK => ?_) AllReadyH.nil)
          · obtain ⟨ok, hR, hf, hN⟩ := S.out.row 0 rfl
            refine Kd.R_append_rows_step K3 (Rr := K3.K _) (w0 := wB) wB.heap.size (by rfl) (.tmp 46) (.tmp 49) 22 T3 (.int .i32 0) 4 rfl Tryd.underlying22 info21 rfl (by decide) (by decide) _ _ (l.take N) _ _ _ ok (fun _ => False) rfl rfl hR ((HCC.out _ (Kd.C_below HC.out S.out.below)).1) (fun _ _ h => h) (fun _ h => h.elim) hf S.out.below S.out.below.size (by (have := HNLE.out; have := HNL.out; simp <;> omega)) (fun v1 w1 ho hb hg hat => ?_)
            have S' := Aside0.mk (hN v1 w1 _ ho hg)
            refine hK.out _ _ S'.out.below (fun hS2 => ?_)
            clear hR hf hN ho hb hg hat hK K hS S
            have hS := hS2
            have S := S'
            clear hS2 S'
            try simp only [Act.put, List.setIfInBounds_toArray, List.set_cons_zero, List.set_cons_succ]
            refine wpAnyH_ready (rs := [7]) (by kernel_rfl) (by simp) ?_
            refine AllReadyH.cons (o := { dst := some 53, op := _, type := _, pos := _, after := _, guard := _ }) rfl (fun K hK => ?_) AllReadyH.nil
            refine lit_step S.out (by rfl) rfl [b, a] (by first | (go_simp; done) | (go_simp; rfl)) (by simp) (fun g_ w1_ hs_ => ?_)
            have S' := Aside0.mk hs_
            refine hK.out _ _ S'.out.below (fun hS2 => ?_)
            clear hs_ hK K hS S
            have hS := hS2
            have S := S'
            clear hS2 S'
            try simp only [Act.put, List.setIfInBounds_toArray, List.set_cons_zero, List.set_cons_succ]
            refine wpAnyH_ready (rs := [8]) (by kernel_rfl) (by simp) ?_
            refine AllReadyH.cons (o := { dst := some 54, op := _, type := _, pos := _, after := _, guard := _ }) rfl (fun K hK => ?_) AllReadyH.nil
            obtain ⟨ok, hR, hf, hN⟩ := S.out.row 0 rfl
            refine Kd.R_append_rows_step K3 (Rr := K3.K _) (w0 := wB) wB.heap.size (by rfl) (.tmp 50) (.tmp 53) 22 T3 (.int .i32 0) 4 rfl Tryd.underlying22 info21 rfl (by decide) (by decide) _ _ [b, a] _ _ _ ok (fun _ => False) rfl rfl hR ((reads' S.out 1 rfl).2.2) (fun _ _ h => h) (fun _ h => h.elim) hf S.out.below S.out.below.size (by (have := HNLE.out; have := HNL.out; simp <;> omega)) (fun v1 w1 ho hb hg hat => ?_)
            have S' := Aside0.mk (hN v1 w1 _ ho hg)
            refine hK.out _ _ S'.out.below (fun hS2 => ?_)
            clear hR hf hN ho hb hg hat hK K hS S
            have hS := hS2
            have S := S'
            clear hS2 S'
            try simp only [Act.put, List.setIfInBounds_toArray, List.set_cons_zero, List.set_cons_succ]
            refine wpAnyH_ready (rs := [12]) (by kernel_rfl) (by simp) ?_
            refine AllReadyH.cons (o := { dst := some 58, op := _, type := _, pos := _, after := _, guard := _ }) rfl (fun K hK => ?_) AllReadyH.nil
            obtain ⟨ok, hR, hf, hN⟩ := S.out.row 0 rfl
            refine Kd.R_append_rows_step K3 (Rr := K3.K _) (w0 := wB) wB.heap.size (by rfl) (.tmp 54) (.tmp 57) 22 T3 (.int .i32 0) 4 rfl Tryd.underlying22 info21 rfl (by decide) (by decide) _ _ (l.drop N) _ _ _ ok (fun _ => False) rfl rfl hR ((HCC.out _ (Kd.C_below HC.out S.out.below)).2) (fun _ _ h => h) (fun _ h => h.elim) hf S.out.below S.out.below.size (by (have := HNLE.out; have := HNL.out; simp <;> omega)) (fun v1 w1 ho hb hg hat => ?_)
            have S' := Aside0.mk (hN v1 w1 _ ho hg)
            refine hK.out _ _ S'.out.below (fun hS2 => ?_)
            clear hR hf hN ho hb hg hat hK K hS S
            have hS := hS2
            have S := S'
            clear hS2 S'
            try simp only [Act.put, List.setIfInBounds_toArray, List.set_cons_zero, List.set_cons_succ]
            refine wpAnyH_take (i := 13) (oi := { dst := some 11, op := _, type := _, pos := _, after := _, guard := _ }) (v := v1) rfl (by kernel_rfl) (by kernel_rfl) (by kernel_rfl) (fun _ _ _ h => h) (Or.inl ⟨by rfl, fun W hW => ?_⟩) hS ?_
            · (go_simp)
            try simp only [Act.put, List.setIfInBounds_toArray, List.set_cons_zero, List.set_cons_succ]
            refine wpAnyH_done (by kernel_rfl) ?_ _
            go_wp2
            go_meet
            case rel =>
              obtain ⟨ok, h⟩ := S.out.one 0 _ rfl
              exact ⟨_, rfl, ⟨by rw [HY.out]; exact Kd.R_mono h (fun _ _ => trivial)⟩, ⟨S.out.below⟩⟩
          · refine lit_step S.out (by rfl) rfl [b, a] (by first | (go_simp; done) | (go_simp; rfl)) (by simp) (fun g_ w1_ hs_ => ?_)
            have S' := Aside0.mk hs_
            refine hK.out _ _ S'.out.below (fun hS2 => ?_)
            clear hs_ hK K hS S
            have hS := hS2
            have S := S'
            clear hS2 S'
            try simp only [Act.put, List.setIfInBounds_toArray, List.set_cons_zero, List.set_cons_succ]
            refine wpAnyH_ready (rs := [4]) (by kernel_rfl) (by simp) ?_
            refine AllReadyH.cons (o := { dst := some 50, op := _, type := _, pos := _, after := _, guard := _ }) rfl (fun K hK => ?_) AllReadyH.nil
            obtain ⟨ok, hR, hf, hN⟩ := S.out.row 0 rfl
            refine Kd.R_append_rows_step K3 (Rr := K3.K _) (w0 := wB) wB.heap.size (by rfl) (.tmp 46) (.tmp 49) 22 T3 (.int .i32 0) 4 rfl Tryd.underlying22 info21 rfl (by decide) (by decide) _ _ (l.take N) _ _ _ ok (fun _ => False) rfl rfl hR ((HCC.out _ (Kd.C_below HC.out S.out.below)).1) (fun _ _ h => h) (fun _ h => h.elim) hf S.out.below S.out.below.size (by (have := HNLE.out; have := HNL.out; simp <;> omega)) (fun v1 w1 ho hb hg hat => ?_)
            have S' := Aside0.mk (hN v1 w1 _ ho hg)
            refine hK.out _ _ S'.out.below (fun hS2 => ?_)
            clear hR hf hN ho hb hg hat hK K hS S
            have hS := hS2
            have S := S'
            clear hS2 S'
            try simp only [Act.put, List.setIfInBounds_toArray, List.set_cons_zero, List.set_cons_succ]
            refine wpAnyH_ready (rs := [8]) (by kernel_rfl) (by simp) ?_
            refine AllReadyH.cons (o := { dst := some 54, op := _, type := _, pos := _, after := _, guard := _ }) rfl (fun K hK => ?_) AllReadyH.nil
            obtain ⟨ok, hR, hf, hN⟩ := S.out.row 0 rfl
            refine Kd.R_append_rows_step K3 (Rr := K3.K _) (w0 := wB) wB.heap.size (by rfl) (.tmp 50) (.tmp 53) 22 T3 (.int .i32 0) 4 rfl Tryd.underlying22 info21 rfl (by decide) (by decide) _ _ [b, a] _ _ _ ok (fun _ => False) rfl rfl hR ((reads' S.out 1 rfl).2.2) (fun _ _ h => h) (fun _ h => h.elim) hf S.out.below S.out.below.size (by (have := HNLE.out; have := HNL.out; simp <;> omega)) (fun v1 w1 ho hb hg hat => ?_)
            have S' := Aside0.mk (hN v1 w1 _ ho hg)
            refine hK.out _ _ S'.out.below (fun hS2 => ?_)
            clear hR hf hN ho hb hg hat hK K hS S
            have hS := hS2
            have S := S'
            clear hS2 S'
            try simp only [Act.put, List.setIfInBounds_toArray, List.set_cons_zero, List.set_cons_succ]
            refine wpAnyH_ready (rs := [12]) (by kernel_rfl) (by simp) ?_
            refine AllReadyH.cons (o := { dst := some 58, op := _, type := _, pos := _, after := _, guard := _ }) rfl (fun K hK => ?_) AllReadyH.nil
            obtain ⟨ok, hR, hf, hN⟩ := S.out.row 0 rfl
            refine Kd.R_append_rows_step K3 (Rr := K3.K _) (w0 := wB) wB.heap.size (by rfl) (.tmp 54) (.tmp 57) 22 T3 (.int .i32 0) 4 rfl Tryd.underlying22 info21 rfl (by decide) (by decide) _ _ (l.drop N) _ _ _ ok (fun _ => False) rfl rfl hR ((HCC.out _ (Kd.C_below HC.out S.out.below)).2) (fun _ _ h => h) (fun _ h => h.elim) hf S.out.below S.out.below.size (by (have := HNLE.out; have := HNL.out; simp <;> omega)) (fun v1 w1 ho hb hg hat => ?_)
            have S' := Aside0.mk (hN v1 w1 _ ho hg)
            refine hK.out _ _ S'.out.below (fun hS2 => ?_)
            clear hR hf hN ho hb hg hat hK K hS S
            have hS := hS2
            have S := S'
            clear hS2 S'
            try simp only [Act.put, List.setIfInBounds_toArray, List.set_cons_zero, List.set_cons_succ]
            refine wpAnyH_take (i := 13) (oi := { dst := some 11, op := _, type := _, pos := _, after := _, guard := _ }) (v := v1) rfl (by kernel_rfl) (by kernel_rfl) (by kernel_rfl) (fun _ _ _ h => h) (Or.inl ⟨by rfl, fun W hW => ?_⟩) hS ?_
            · (go_simp)
            try simp only [Act.put, List.setIfInBounds_toArray, List.set_cons_zero, List.set_cons_succ]
            refine wpAnyH_done (by kernel_rfl) ?_ _
            go_wp2
            go_meet
            case rel =>
              obtain ⟨ok, h⟩ := S.out.one 0 _ rfl
              exact ⟨_, rfl, ⟨by rw [HY.out]; exact Kd.R_mono h (fun _ _ => trivial)⟩, ⟨S.out.below⟩⟩
        · refine lit_step S.out (by rfl) rfl [b, a] (by first | (go_simp; done) | (go_simp; rfl)) (by simp) (fun g_ w1_ hs_ => ?_)
          have S' := Aside0.mk hs_
          refine hK.out _ _ S'.out.below (fun hS2 => ?_)
          clear hs_ hK K hS S
          have hS := hS2
          have S := S'
          clear hS2 S'
          try simp only [Act.put, List.setIfInBounds_toArray, List.set_cons_zero, List.set_cons_succ]
          refine wpAnyH_ready (rs := [0]) (by kernel_rfl) (by simp) ?_
          refine AllReadyH.cons (o := { dst := some 46, op := _, type := _, pos := _, after := _, guard := _ }) rfl (fun K hK => ?_) AllReadyH.nil
          refine lit_step S.out (by rfl) rfl [] (by first | (go_simp; done) | (go_simp; rfl)) (by simp) (fun g_ w1_ hs_ => ?_)
          have S' := Aside0.mk hs_
          refine hK.out _ _ S'.out.below (fun hS2 => ?_)
          clear hs_ hK K hS S
          have hS := hS2
          have S := S'
          clear hS2 S'
          try simp only [Act.put, List.setIfInBounds_toArray, List.set_cons_zero, List.set_cons_succ]
          refine wpAnyH_ready (rs := [4]) (by kernel_rfl) (by simp) ?_
          refine AllReadyH.cons (o := { dst := some 50, op := _, type := _, pos := _, after := _, guard := _ }) rfl (fun K hK => ?_) AllReadyH.nil
          obtain ⟨ok, hR, hf, hN⟩ := S.out.row 1 rfl
          refine Kd.R_append_rows_step K3 (Rr := K3.K _) (w0 := wB) wB.heap.size (by rfl) (.tmp 46) (.tmp 49) 22 T3 (.int .i32 0) 4 rfl Tryd.underlying22 info21 rfl (by decide) (by decide) _ _ (l.take N) _ _ _ ok (fun _ => False) rfl rfl hR ((HCC.out _ (Kd.C_below HC.out S.out.below)).1) (fun _ _ h => h) (fun _ h => h.elim) hf S.out.below S.out.below.size (by (have := HNLE.out; have := HNL.out; simp <;> omega)) (fun v1 w1 ho hb hg hat => ?_)
          have S' := Aside0.mk (hN v1 w1 _ ho hg)
          refine hK.out _ _ S'.out.below (fun hS2 => ?_)
          clear hR hf hN ho hb hg hat hK K hS S
          have hS := hS2
          have S := S'
          clear hS2 S'
          try simp only [Act.put, List.setIfInBounds_toArray, List.set_cons_zero, List.set_cons_succ]
          refine wpAnyH_ready (rs := [8]) (by kernel_rfl) (by simp) ?_
          refine AllReadyH.cons (o := { dst := some 54, op := _, type := _, pos := _, after := _, guard := _ }) rfl (fun K hK => ?_) AllReadyH.nil
          obtain ⟨ok, hR, hf, hN⟩ := S.out.row 1 rfl
          refine Kd.R_append_rows_step K3 (Rr := K3.K _) (w0 := wB) wB.heap.size (by rfl) (.tmp 50) (.tmp 53) 22 T3 (.int .i32 0) 4 rfl Tryd.underlying22 info21 rfl (by decide) (by decide) _ _ [b, a] _ _ _ ok (fun _ => False) rfl rfl hR ((reads' S.out 0 rfl).2.2) (fun _ _ h => h) (fun _ h => h.elim) hf S.out.below S.out.below.size (by (have := HNLE.out; have := HNL.out; simp <;> omega)) (fun v1 w1 ho hb hg hat => ?_)
          have S' := Aside0.mk (hN v1 w1 _ ho hg)
          refine hK.out _ _ S'.out.below (fun hS2 => ?_)
          clear hR hf hN ho hb hg hat hK K hS S
          have hS := hS2
          have S := S'
          clear hS2 S'
          try simp only [Act.put, List.setIfInBounds_toArray, List.set_cons_zero, List.set_cons_succ]
          refine wpAnyH_ready (rs := [12]) (by kernel_rfl) (by simp) ?_
          refine AllReadyH.cons (o := { dst := some 58, op := _, type := _, pos := _, after := _, guard := _ }) rfl (fun K hK => ?_) AllReadyH.nil
          obtain ⟨ok, hR, hf, hN⟩ := S.out.row 1 rfl
          refine Kd.R_append_rows_step K3 (Rr := K3.K _) (w0 := wB) wB.heap.size (by rfl) (.tmp 54) (.tmp 57) 22 T3 (.int .i32 0) 4 rfl Tryd.underlying22 info21 rfl (by decide) (by decide) _ _ (l.drop N) _ _ _ ok (fun _ => False) rfl rfl hR ((HCC.out _ (Kd.C_below HC.out S.out.below)).2) (fun _ _ h => h) (fun _ h => h.elim) hf S.out.below S.out.below.size (by (have := HNLE.out; have := HNL.out; simp <;> omega)) (fun v1 w1 ho hb hg hat => ?_)
          have S' := Aside0.mk (hN v1 w1 _ ho hg)
          refine hK.out _ _ S'.out.below (fun hS2 => ?_)
          clear hR hf hN ho hb hg hat hK K hS S
          have hS := hS2
          have S := S'
          clear hS2 S'
          try simp only [Act.put, List.setIfInBounds_toArray, List.set_cons_zero, List.set_cons_succ]
          refine wpAnyH_take (i := 13) (oi := { dst := some 11, op := _, type := _, pos := _, after := _, guard := _ }) (v := v1) rfl (by kernel_rfl) (by kernel_rfl) (by kernel_rfl) (fun _ _ _ h => h) (Or.inl ⟨by rfl, fun W hW => ?_⟩) hS ?_
          · (go_simp)
          try simp only [Act.put, List.setIfInBounds_toArray, List.set_cons_zero, List.set_cons_succ]
          refine wpAnyH_done (by kernel_rfl) ?_ _
          go_wp2
          go_meet
          case rel =>
            obtain ⟨ok, h⟩ := S.out.one 1 _ rfl
            exact ⟨_, rfl, ⟨by rw [HY.out]; exact Kd.R_mono h (fun _ _ => trivial)⟩, ⟨S.out.below⟩⟩
      case rest =>
        obtain ⟨_, rfl, HRy, HBy⟩ := hcut
        obtain ⟨Ay, cy, rfl, hcy, hCy⟩ := Kd.R_reads HRy.out
        obtain ⟨Y, hY⟩ : ∃ Y, Y = y.length := ⟨_, rfl⟩
        rw [← hY] at hcy hCy ⊢
        have HYL := Aside0.mk hY
        have HCy := Aside0.mk hCy
        have HCx := Aside0.mk (Kd.C_below HCx.out HBy.out)
        have HB := Aside0.mk (below_then HB1x.out HB1x.out.size HBy.out)
        have HX32 := Aside0.mk (show ∀ z ∈ x, I32 z from fun z hz => all32 HWF.out HA.out HB'.out (by rw [HX.out] at hz; exact hz))
        have HY32 := Aside0.mk (show ∀ z ∈ y, I32 z from fun z hz => all32 HWF.out HB'.out HA.out (by rw [HY.out] at hz; exact hz))
        have HXS := Aside0.mk (show X ≤ 2000000 by rw [HXL.out, HX.out]; have := HNLE.out; have := HN.out; simp <;> omega)
        have HYS := Aside0.mk (show Y ≤ 2000000 by rw [HYL.out, HY.out]; have := HNLE.out; have := HN.out; simp <;> omega)
        obtain ⟨da, hda⟩ : ∃ da, da = decU a := ⟨_, rfl⟩
        obtain ⟨db, hdb⟩ : ∃ db, db = decU b := ⟨_, rfl⟩
        obtain ⟨la, hla⟩ : ∃ la, la = da.length := ⟨_, rfl⟩
        obtain ⟨lb, hlb⟩ : ∃ lb, lb = db.length := ⟨_, rfl⟩
        have HDA := Aside0.mk hda
        have HDB := Aside0.mk hdb
        have HLA := Aside0.mk hla
        have HLB := Aside0.mk hlb
        have HA1 := Aside0.mk (show 1 ≤ la by rw [hla, hda]; exact List.length_pos_iff.2 (Ve.decF_ne 4 a))
        have HB1 := Aside0.mk (show 1 ≤ lb by rw [hlb, hdb]; exact List.length_pos_iff.2 (Ve.decF_ne 4 b))
        have T1 := Aside0.mk trivial
        clear HRy HBy hCy hY HB1x hda hdb hla hlb hct hcd HC
        go_upto_region 10 with (first | (go_at_call 36; have t := T1; clear T1 t; go_must (refine (DecR _ a HA.out).mono ?_; rintro e w2 ⟨v2, rfl, p1, p2⟩; rw [← HDA.out] at p1; obtain ⟨Aa, ca, e2, hca, hCa⟩ := Kd.R_reads p1; rw [← HLA.out] at e2 hca hCa; subst e2; have HCa := Aside0.mk hCa; have n0_ := Aside0.mk (below_step HB.out p2); have n1_ := Aside0.mk (Kd.C_below HCx.out p2); have n2_ := Aside0.mk (Kd.C_below HCy.out p2); clear HB HCx HCy p1 p2 hCa hca; have HB := n0_; have HCx := n1_; have HCy := n2_; clear n0_ n1_ n2_)) | (go_at_call 36; go_must (refine (DecR _ b HB'.out).mono ?_; rintro e w3 ⟨v3, rfl, p1, p2⟩; rw [← HDB.out] at p1; obtain ⟨Ab, cb, e3, hcb, hCb⟩ := Kd.R_reads p1; rw [← HLB.out] at e3 hcb hCb; subst e3; have HCb := Aside0.mk hCb; have n0_ := Aside0.mk (below_step HB.out p2); have n1_ := Aside0.mk (Kd.C_below HCx.out p2); have n2_ := Aside0.mk (Kd.C_below HCy.out p2); have n3_ := Aside0.mk (Kd.C_below HCa.out p2); clear HB HCx HCy HCa p1 p2 hCb hcb; have HB := n0_; have HCx := n1_; have HCy := n2_; have HCa := n3_; clear n0_ n1_ n2_ n3_)))
        by_cases h1 : 1 < la
        · have hd1 : decide (1 < la) = true := decide_eq_true h1
          go_wp2
          go_ret
          exact ⟨rfl, HB.out⟩
        · have hd1 : decide (1 < la) = false := decide_eq_false h1
          by_cases h2 : 1 < lb
          · have hd2 : decide (1 < lb) = true := decide_eq_true h2
            go_wp2
            go_ret
            exact ⟨rfl, HB.out⟩
          · have hd2 : decide (1 < lb) = false := decide_eq_false h2
            obtain rfl : la = 1 := by have := HA1.out; omega
            obtain rfl : lb = 1 := by have := HB1.out; omega
            clear h1 h2
            go_upto_region 12 with (fail)
            obtain ⟨pa, hpa⟩ := one_of HLA.out.symm
            obtain ⟨pb, hpb⟩ := one_of HLB.out.symm
            subst hpa hpb
            obtain ⟨ada, rfl, ha0⟩ := Kd.at_int HCa.out (0 : Int) (by decide) (by decide)
            obtain ⟨adb, rfl, hb0⟩ := Kd.at_int HCb.out (0 : Int) (by decide) (by decide)
            rw [show rd [pa] (0 : Int) = pa from rfl, show (0 : Int).toNat = 0 from rfl] at ha0
            rw [show rd [pb] (0 : Int) = pb from rfl, show (0 : Int).toNat = 0 from rfl] at hb0
            rw [add0] at ha0 hb0
            have HA0 := Aside0.mk ha0
            have HB0 := Aside0.mk hb0
            go_quiet (first | (go_at_call 29; exact Calls.quiet_of (ClsQ _ _)))
            have hD := ((Drawn0.refl w3).step nq).below
            have HA0' := Aside0.mk ((hD.cell (World.block_lt_of_cell? _ _ HA0.out)).trans HA0.out)
            have HB0' := Aside0.mk ((hD.cell (World.block_lt_of_cell? _ _ HB0.out)).trans HB0.out)
            have HCx' := Aside0.mk (Kd.C_below HCx.out hD)
            have HCy' := Aside0.mk (Kd.C_below HCy.out hD)
            have HB' := Aside0.mk (below_step HB.out hD)
            clear ha0 hb0 hD HA0 HB0 HCx HCy HB
            generalize w3.drewN nq = W0 at HA0' HB0' HCx' HCy' HB' ⊢
            have HA0 := HA0'
            have HB0 := HB0'
            have HCx := HCx'
            have HCy := HCy'
            have HB := HB'
            have HG0 := Aside0.mk (HG.out.below HB.out)
            clear HA0' HB0' HCx' HCy' HB'
            have hsw := swap_law l N a b pa pb HDA.out.symm HDB.out.symm
            rw [← HX.out, ← HY.out] at hsw
            have HSW := Aside0.mk hsw
            obtain ⟨P, hP⟩ : ∃ P, P = cls pa := ⟨_, rfl⟩
            obtain ⟨Q, hQ⟩ : ∃ Q, Q = cls pb := ⟨_, rfl⟩
            rw [← hP, ← hQ] at hsw ⊢
            obtain ⟨hsw1, hsw2⟩ := hsw
            obtain ⟨E, hE⟩ : ∃ E, E = (pa == pb) := ⟨_, rfl⟩
            rw [← hE] at hsw2
            have HE := Aside0.mk hE.symm
            clear hE
            clear hP hQ HSW
            by_cases hp : P = 0
            · have HSM := Aside0.mk (hsw2 (.inl hp))
              clear hsw1 hsw2
              subst hp
              go_upto_region 13 with (fail)
              refine wp_region_held_drew (S := fun W => Below W0.heap.size W0 W) (by kernel_rfl) (((Drawn0.refl W0).step 1).below) (fun hS => ?_)
              refine wpAnyH_take (i := 0) (oi := { dst := some 79, op := _, type := _, pos := _, after := _, guard := _ }) (v := .slice Ax X cx) rfl (by kernel_rfl) (by kernel_rfl) (by kernel_rfl) (fun _ _ _ h => h) (Or.inl ⟨by rfl, fun W hW => ?_⟩) hS ?_
              · (go_simp)
              try simp only [Act.put, List.setIfInBounds_toArray, List.set_cons_zero, List.set_cons_succ]
              refine wpAnyH_take (i := 1) (oi := { dst := some 80, op := _, type := _, pos := _, after := _, guard := _ }) (v := .slice Ay Y cy) rfl (by kernel_rfl) (by kernel_rfl) (by kernel_rfl) (fun _ _ _ h => h) (Or.inl ⟨by rfl, fun W hW => ?_⟩) hS ?_
              · (go_simp)
              try simp only [Act.put, List.setIfInBounds_toArray, List.set_cons_zero, List.set_cons_succ]
              refine wpAnyH_take (i := 3) (oi := { dst := some 82, op := _, type := _, pos := _, after := _, guard := _ }) (v := .int .i64 0) rfl (by kernel_rfl) (by kernel_rfl) (by kernel_rfl) (fun _ _ _ h => h) (Or.inl ⟨by rfl, fun W hW => ?_⟩) hS ?_
              · (go_simp)
              try simp only [Act.put, List.setIfInBounds_toArray, List.set_cons_zero, List.set_cons_succ]
              refine wpAnyH_take (i := 4) (oi := { dst := some 83, op := _, type := _, pos := _, after := _, guard := _ }) (v := .bool false) rfl (by kernel_rfl) (by kernel_rfl) (by kernel_rfl) (fun _ _ _ h => h) (Or.inl ⟨by rfl, fun W hW => ?_⟩) hS ?_
              · (go_simp)
              try simp only [Act.put, List.setIfInBounds_toArray, List.set_cons_zero, List.set_cons_succ]
              refine wpAnyH_ready (rs := [2]) (by kernel_rfl) (by simp) ?_
              refine AllReadyH.cons (o := { dst := some 81, op := _, type := _, pos := _, after := _, guard := _ }) rfl (fun K hK => ?_) AllReadyH.nil
              go_simp
              (go_at_call 24)
              refine (NSameR _ (HG0.out.below ((Drawn0.refl W0).step 1).below) Ax Ay X cx Y cy x y (Kd.C_below HCx.out ((Drawn0.refl W0).step 1).below) HXL.out hcx (Kd.C_below HCy.out ((Drawn0.refl W0).step 1).below) HYL.out hcy HX32.out HY32.out (by have := HXS.out; omega) (by have := HYS.out; omega)).mono ?_
              rintro e w5 ⟨rfl, p1⟩
              rw [HSM.out]
              have B5 := Aside0.mk (below_then ((Drawn0.refl W0).step 1).below ((Drawn0.refl W0).step 1).below.size p1)
              clear p1
              go_wp2_with fail
              refine hK.out _ _ B5.out (fun hS2 => ?_)
              clear hK K hS
              have hS := hS2
              clear hS2
              try simp only [Act.put, List.setIfInBounds_toArray, List.set_cons_zero, List.set_cons_succ]
              refine wpAnyH_take (i := 5) (oi := { dst := some 84, op := _, type := _, pos := _, after := _, guard := _ }) (v := .bool false) rfl (by kernel_rfl) (by kernel_rfl) (by kernel_rfl) (fun _ _ _ h => h) (Or.inl ⟨by rfl, fun W hW => ?_⟩) hS ?_
              · (go_simp)
              try simp only [Act.put, List.setIfInBounds_toArray, List.set_cons_zero, List.set_cons_succ]
              refine wpAnyH_take (i := 6) (oi := { dst := some 85, op := _, type := _, pos := _, after := _, guard := _ }) (v := undef) rfl (by kernel_rfl) (by kernel_rfl) (by kernel_rfl) (fun _ _ _ h => h) (Or.inr ⟨by rfl, rfl⟩) hS ?_
              try simp only [Act.put, List.setIfInBounds_toArray, List.set_cons_zero, List.set_cons_succ]
              refine wpAnyH_take (i := 7) (oi := { dst := some 86, op := _, type := _, pos := _, after := _, guard := _ }) (v := undef) rfl (by kernel_rfl) (by kernel_rfl) (by kernel_rfl) (fun _ _ _ h => h) (Or.inr ⟨by rfl, rfl⟩) hS ?_
              try simp only [Act.put, List.setIfInBounds_toArray, List.set_cons_zero, List.set_cons_succ]
              refine wpAnyH_take (i := 8) (oi := { dst := some 87, op := _, type := _, pos := _, after := _, guard := _ }) (v := .bool false) rfl (by kernel_rfl) (by kernel_rfl) (by kernel_rfl) (fun _ _ _ h => h) (Or.inl ⟨by rfl, fun W hW => ?_⟩) hS ?_
              · (go_simp)
              try simp only [Act.put, List.setIfInBounds_toArray, List.set_cons_zero, List.set_cons_succ]
              refine wpAnyH_take (i := 9) (oi := { dst := some 88, op := _, type := _, pos := _, after := _, guard := _ }) (v := .bool false) rfl (by kernel_rfl) (by kernel_rfl) (by kernel_rfl) (fun _ _ _ h => h) (Or.inl ⟨by rfl, fun W hW => ?_⟩) hS ?_
              · (go_simp)
              try simp only [Act.put, List.setIfInBounds_toArray, List.set_cons_zero, List.set_cons_succ]
              refine wpAnyH_take (i := 10) (oi := { dst := some 89, op := _, type := _, pos := _, after := _, guard := _ }) (v := undef) rfl (by kernel_rfl) (by kernel_rfl) (by kernel_rfl) (fun _ _ _ h => h) (Or.inr ⟨by rfl, rfl⟩) hS ?_
              try simp only [Act.put, List.setIfInBounds_toArray, List.set_cons_zero, List.set_cons_succ]
              refine wpAnyH_take (i := 11) (oi := { dst := some 90, op := _, type := _, pos := _, after := _, guard := _ }) (v := undef) rfl (by kernel_rfl) (by kernel_rfl) (by kernel_rfl) (fun _ _ _ h => h) (Or.inr ⟨by rfl, rfl⟩) hS ?_
              try simp only [Act.put, List.setIfInBounds_toArray, List.set_cons_zero, List.set_cons_succ]
              refine wpAnyH_take (i := 12) (oi := { dst := some 91, op := _, type := _, pos := _, after := _, guard := _ }) (v := undef) rfl (by kernel_rfl) (by kernel_rfl) (by kernel_rfl) (fun _ _ _ h => h) (Or.inr ⟨by rfl, rfl⟩) hS ?_
              try simp only [Act.put, List.setIfInBounds_toArray, List.set_cons_zero, List.set_cons_succ]
              refine wpAnyH_take (i := 13) (oi := { dst := some 92, op := _, type := _, pos := _, after := _, guard := _ }) (v := .bool false) rfl (by kernel_rfl) (by kernel_rfl) (by kernel_rfl) (fun _ _ _ h => h) (Or.inl ⟨by rfl, fun W hW => ?_⟩) hS ?_
              · (go_simp)
              try simp only [Act.put, List.setIfInBounds_toArray, List.set_cons_zero, List.set_cons_succ]
              refine wpAnyH_take (i := 14) (oi := { dst := some 93, op := _, type := _, pos := _, after := _, guard := _ }) (v := .bool false) rfl (by kernel_rfl) (by kernel_rfl) (by kernel_rfl) (fun _ _ _ h => h) (Or.inl ⟨by rfl, fun W hW => ?_⟩) hS ?_
              · (go_simp)
              try simp only [Act.put, List.setIfInBounds_toArray, List.set_cons_zero, List.set_cons_succ]
              refine wpAnyH_take (i := 15) (oi := { dst := some 94, op := _, type := _, pos := _, after := _, guard := _ }) (v := .slice (some ada) 1 ca) rfl (by kernel_rfl) (by kernel_rfl) (by kernel_rfl) (fun _ _ _ h => h) (Or.inl ⟨by rfl, fun W hW => ?_⟩) hS ?_
              · (go_simp)
              try simp only [Act.put, List.setIfInBounds_toArray, List.set_cons_zero, List.set_cons_succ]
              refine wpAnyH_take (i := 16) (oi := { dst := some 95, op := _, type := _, pos := _, after := _, guard := _ }) (v := .pointer (some ada)) rfl (by kernel_rfl) (by kernel_rfl) (by kernel_rfl) (fun _ _ _ h => h) (Or.inl ⟨by rfl, fun W hW => ?_⟩) hS ?_
              · (go_simp)
              try simp only [Act.put, List.setIfInBounds_toArray, List.set_cons_zero, List.set_cons_succ]
              refine wpAnyH_take (i := 17) (oi := { dst := some 96, op := _, type := _, pos := _, after := _, guard := _ }) (v := .int .i32 pa) rfl (by kernel_rfl) (by kernel_rfl) (by kernel_rfl) (fun _ _ _ h => h) (Or.inl ⟨by rfl, fun W hW => ?_⟩) hS ?_
              · (have hcell := (hW.cell (World.block_lt_of_cell? _ _ HA0.out)).trans HA0.out; go_simp)
              try simp only [Act.put, List.setIfInBounds_toArray, List.set_cons_zero, List.set_cons_succ]
              refine wpAnyH_take (i := 18) (oi := { dst := some 97, op := _, type := _, pos := _, after := _, guard := _ }) (v := .slice (some adb) 1 cb) rfl (by kernel_rfl) (by kernel_rfl) (by kernel_rfl) (fun _ _ _ h => h) (Or.inl ⟨by rfl, fun W hW => ?_⟩) hS ?_
              · (go_simp)
              try simp only [Act.put, List.setIfInBounds_toArray, List.set_cons_zero, List.set_cons_succ]
              refine wpAnyH_take (i := 19) (oi := { dst := some 98, op := _, type := _, pos := _, after := _, guard := _ }) (v := .pointer (some adb)) rfl (by kernel_rfl) (by kernel_rfl) (by kernel_rfl) (fun _ _ _ h => h) (Or.inl ⟨by rfl, fun W hW => ?_⟩) hS ?_
              · (go_simp)
              try simp only [Act.put, List.setIfInBounds_toArray, List.set_cons_zero, List.set_cons_succ]
              refine wpAnyH_take (i := 20) (oi := { dst := some 99, op := _, type := _, pos := _, after := _, guard := _ }) (v := .int .i32 pb) rfl (by kernel_rfl) (by kernel_rfl) (by kernel_rfl) (fun _ _ _ h => h) (Or.inl ⟨by rfl, fun W hW => ?_⟩) hS ?_
              · (have hcell := (hW.cell (World.block_lt_of_cell? _ _ HB0.out)).trans HB0.out; go_simp)
              try simp only [Act.put, List.setIfInBounds_toArray, List.set_cons_zero, List.set_cons_succ]
              refine wpAnyH_take (i := 21) (oi := { dst := some 100, op := _, type := _, pos := _, after := _, guard := _ }) (v := .bool E) rfl (by kernel_rfl) (by kernel_rfl) (by kernel_rfl) (fun _ _ _ h => h) (Or.inl ⟨by rfl, fun W hW => ?_⟩) hS ?_
              · (rw [← HE.out]; go_simp)
              try simp only [Act.put, List.setIfInBounds_toArray, List.set_cons_zero, List.set_cons_succ]
              refine wpAnyH_take (i := 22) (oi := { dst := some 101, op := _, type := _, pos := _, after := _, guard := _ }) (v := .bool E) rfl (by kernel_rfl) (by kernel_rfl) (by kernel_rfl) (fun _ _ _ h => h) (Or.inl ⟨by rfl, fun W hW => ?_⟩) hS ?_
              · (go_simp)
              try simp only [Act.put, List.setIfInBounds_toArray, List.set_cons_zero, List.set_cons_succ]
              refine wpAnyH_take (i := 23) (oi := { dst := some 102, op := _, type := _, pos := _, after := _, guard := _ }) (v := .bool true) rfl (by kernel_rfl) (by kernel_rfl) (by kernel_rfl) (fun _ _ _ h => h) (Or.inl ⟨by rfl, fun W hW => ?_⟩) hS ?_
              · (go_simp)
              try simp only [Act.put, List.setIfInBounds_toArray, List.set_cons_zero, List.set_cons_succ]
              refine wpAnyH_take (i := 24) (oi := { dst := some 6, op := _, type := _, pos := _, after := _, guard := _ }) (v := .bool true) rfl (by kernel_rfl) (by kernel_rfl) (by kernel_rfl) (fun _ _ _ h => h) (Or.inl ⟨by rfl, fun W hW => ?_⟩) hS ?_
              · (go_simp)
              try simp only [Act.put, List.setIfInBounds_toArray, List.set_cons_zero, List.set_cons_succ]
              refine wpAnyH_done (by kernel_rfl) ?_ _
              go_wp2
              go_ret
              exact ⟨rfl, below_then HB.out HB.out.size B5.out⟩
            · have p1 : (P != 0) = true := bne_iff_ne.2 hp
              by_cases hq : Q = 0
              · have HSM := Aside0.mk (hsw2 (.inr (.inl hq)))
                clear hsw1 hsw2
                subst hq
                go_upto_region 13 with (fail)
                refine wp_region_held_drew (S := fun W => Below W0.heap.size W0 W) (by kernel_rfl) (((Drawn0.refl W0).step 1).below) (fun hS => ?_)
                refine wpAnyH_take (i := 0) (oi := { dst := some 79, op := _, type := _, pos := _, after := _, guard := _ }) (v := .slice Ax X cx) rfl (by kernel_rfl) (by kernel_rfl) (by kernel_rfl) (fun _ _ _ h => h) (Or.inl ⟨by rfl, fun W hW => ?_⟩) hS ?_
                · (go_simp)
                try simp only [Act.put, List.setIfInBounds_toArray, List.set_cons_zero, List.set_cons_succ]
                refine wpAnyH_take (i := 1) (oi := { dst := some 80, op := _, type := _, pos := _, after := _, guard := _ }) (v := .slice Ay Y cy) rfl (by kernel_rfl) (by kernel_rfl) (by kernel_rfl) (fun _ _ _ h => h) (Or.inl ⟨by rfl, fun W hW => ?_⟩) hS ?_
                · (go_simp)
                try simp only [Act.put, List.setIfInBounds_toArray, List.set_cons_zero, List.set_cons_succ]
                refine wpAnyH_take (i := 3) (oi := { dst := some 82, op := _, type := _, pos := _, after := _, guard := _ }) (v := .int .i64 P) rfl (by kernel_rfl) (by kernel_rfl) (by kernel_rfl) (fun _ _ _ h => h) (Or.inl ⟨by rfl, fun W hW => ?_⟩) hS ?_
                · (go_simp)
                try simp only [Act.put, List.setIfInBounds_toArray, List.set_cons_zero, List.set_cons_succ]
                refine wpAnyH_take (i := 4) (oi := { dst := some 83, op := _, type := _, pos := _, after := _, guard := _ }) (v := .bool true) rfl (by kernel_rfl) (by kernel_rfl) (by kernel_rfl) (fun _ _ _ h => h) (Or.inl ⟨by rfl, fun W hW => ?_⟩) hS ?_
                · (go_simp)
                try simp only [Act.put, List.setIfInBounds_toArray, List.set_cons_zero, List.set_cons_succ]
                refine wpAnyH_ready (rs := [2]) (by kernel_rfl) (by simp) ?_
                refine AllReadyH.cons (o := { dst := some 81, op := _, type := _, pos := _, after := _, guard := _ }) rfl (fun K hK => ?_) AllReadyH.nil
                go_simp
                (go_at_call 24)
                refine (NSameR _ (HG0.out.below ((Drawn0.refl W0).step 1).below) Ax Ay X cx Y cy x y (Kd.C_below HCx.out ((Drawn0.refl W0).step 1).below) HXL.out hcx (Kd.C_below HCy.out ((Drawn0.refl W0).step 1).below) HYL.out hcy HX32.out HY32.out (by have := HXS.out; omega) (by have := HYS.out; omega)).mono ?_
                rintro e w5 ⟨rfl, p1⟩
                rw [HSM.out]
                have B5 := Aside0.mk (below_then ((Drawn0.refl W0).step 1).below ((Drawn0.refl W0).step 1).below.size p1)
                clear p1
                go_wp2_with fail
                refine hK.out _ _ B5.out (fun hS2 => ?_)
                clear hK K hS
                have hS := hS2
                clear hS2
                try simp only [Act.put, List.setIfInBounds_toArray, List.set_cons_zero, List.set_cons_succ]
                refine wpAnyH_take (i := 5) (oi := { dst := some 84, op := _, type := _, pos := _, after := _, guard := _ }) (v := .bool true) rfl (by kernel_rfl) (by kernel_rfl) (by kernel_rfl) (fun _ _ _ h => h) (Or.inl ⟨by rfl, fun W hW => ?_⟩) hS ?_
                · (go_simp)
                try simp only [Act.put, List.setIfInBounds_toArray, List.set_cons_zero, List.set_cons_succ]
                refine wpAnyH_take (i := 6) (oi := { dst := some 85, op := _, type := _, pos := _, after := _, guard := _ }) (v := .int .i64 0) rfl (by kernel_rfl) (by kernel_rfl) (by kernel_rfl) (fun _ _ _ h => h) (Or.inl ⟨by rfl, fun W hW => ?_⟩) hS ?_
                · (go_simp)
                try simp only [Act.put, List.setIfInBounds_toArray, List.set_cons_zero, List.set_cons_succ]
                refine wpAnyH_take (i := 7) (oi := { dst := some 86, op := _, type := _, pos := _, after := _, guard := _ }) (v := .bool false) rfl (by kernel_rfl) (by kernel_rfl) (by kernel_rfl) (fun _ _ _ h => h) (Or.inl ⟨by rfl, fun W hW => ?_⟩) hS ?_
                · (go_simp)
                try simp only [Act.put, List.setIfInBounds_toArray, List.set_cons_zero, List.set_cons_succ]
                refine wpAnyH_take (i := 8) (oi := { dst := some 87, op := _, type := _, pos := _, after := _, guard := _ }) (v := .bool false) rfl (by kernel_rfl) (by kernel_rfl) (by kernel_rfl) (fun _ _ _ h => h) (Or.inl ⟨by rfl, fun W hW => ?_⟩) hS ?_
                · (go_simp)
                try simp only [Act.put, List.setIfInBounds_toArray, List.set_cons_zero, List.set_cons_succ]
                refine wpAnyH_take (i := 9) (oi := { dst := some 88, op := _, type := _, pos := _, after := _, guard := _ }) (v := .bool false) rfl (by kernel_rfl) (by kernel_rfl) (by kernel_rfl) (fun _ _ _ h => h) (Or.inl ⟨by rfl, fun W hW => ?_⟩) hS ?_
                · (go_simp)
                try simp only [Act.put, List.setIfInBounds_toArray, List.set_cons_zero, List.set_cons_succ]
                refine wpAnyH_take (i := 10) (oi := { dst := some 89, op := _, type := _, pos := _, after := _, guard := _ }) (v := undef) rfl (by kernel_rfl) (by kernel_rfl) (by kernel_rfl) (fun _ _ _ h => h) (Or.inr ⟨by rfl, rfl⟩) hS ?_
                try simp only [Act.put, List.setIfInBounds_toArray, List.set_cons_zero, List.set_cons_succ]
                refine wpAnyH_take (i := 11) (oi := { dst := some 90, op := _, type := _, pos := _, after := _, guard := _ }) (v := undef) rfl (by kernel_rfl) (by kernel_rfl) (by kernel_rfl) (fun _ _ _ h => h) (Or.inr ⟨by rfl, rfl⟩) hS ?_
                try simp only [Act.put, List.setIfInBounds_toArray, List.set_cons_zero, List.set_cons_succ]
                refine wpAnyH_take (i := 12) (oi := { dst := some 91, op := _, type := _, pos := _, after := _, guard := _ }) (v := undef) rfl (by kernel_rfl) (by kernel_rfl) (by kernel_rfl) (fun _ _ _ h => h) (Or.inr ⟨by rfl, rfl⟩) hS ?_
                try simp only [Act.put, List.setIfInBounds_toArray, List.set_cons_zero, List.set_cons_succ]
                refine wpAnyH_take (i := 13) (oi := { dst := some 92, op := _, type := _, pos := _, after := _, guard := _ }) (v := .bool false) rfl (by kernel_rfl) (by kernel_rfl) (by kernel_rfl) (fun _ _ _ h => h) (Or.inl ⟨by rfl, fun W hW => ?_⟩) hS ?_
                · (go_simp)
                try simp only [Act.put, List.setIfInBounds_toArray, List.set_cons_zero, List.set_cons_succ]
                refine wpAnyH_take (i := 14) (oi := { dst := some 93, op := _, type := _, pos := _, after := _, guard := _ }) (v := .bool false) rfl (by kernel_rfl) (by kernel_rfl) (by kernel_rfl) (fun _ _ _ h => h) (Or.inl ⟨by rfl, fun W hW => ?_⟩) hS ?_
                · (go_simp)
                try simp only [Act.put, List.setIfInBounds_toArray, List.set_cons_zero, List.set_cons_succ]
                refine wpAnyH_take (i := 15) (oi := { dst := some 94, op := _, type := _, pos := _, after := _, guard := _ }) (v := .slice (some ada) 1 ca) rfl (by kernel_rfl) (by kernel_rfl) (by kernel_rfl) (fun _ _ _ h => h) (Or.inl ⟨by rfl, fun W hW => ?_⟩) hS ?_
                · (go_simp)
                try simp only [Act.put, List.setIfInBounds_toArray, List.set_cons_zero, List.set_cons_succ]
                refine wpAnyH_take (i := 16) (oi := { dst := some 95, op := _, type := _, pos := _, after := _, guard := _ }) (v := .pointer (some ada)) rfl (by kernel_rfl) (by kernel_rfl) (by kernel_rfl) (fun _ _ _ h => h) (Or.inl ⟨by rfl, fun W hW => ?_⟩) hS ?_
                · (go_simp)
                try simp only [Act.put, List.setIfInBounds_toArray, List.set_cons_zero, List.set_cons_succ]
                refine wpAnyH_take (i := 17) (oi := { dst := some 96, op := _, type := _, pos := _, after := _, guard := _ }) (v := .int .i32 pa) rfl (by kernel_rfl) (by kernel_rfl) (by kernel_rfl) (fun _ _ _ h => h) (Or.inl ⟨by rfl, fun W hW => ?_⟩) hS ?_
                · (have hcell := (hW.cell (World.block_lt_of_cell? _ _ HA0.out)).trans HA0.out; go_simp)
                try simp only [Act.put, List.setIfInBounds_toArray, List.set_cons_zero, List.set_cons_succ]
                refine wpAnyH_take (i := 18) (oi := { dst := some 97, op := _, type := _, pos := _, after := _, guard := _ }) (v := .slice (some adb) 1 cb) rfl (by kernel_rfl) (by kernel_rfl) (by kernel_rfl) (fun _ _ _ h => h) (Or.inl ⟨by rfl, fun W hW => ?_⟩) hS ?_
                · (go_simp)
                try simp only [Act.put, List.setIfInBounds_toArray, List.set_cons_zero, List.set_cons_succ]
                refine wpAnyH_take (i := 19) (oi := { dst := some 98, op := _, type := _, pos := _, after := _, guard := _ }) (v := .pointer (some adb)) rfl (by kernel_rfl) (by kernel_rfl) (by kernel_rfl) (fun _ _ _ h => h) (Or.inl ⟨by rfl, fun W hW => ?_⟩) hS ?_
                · (go_simp)
                try simp only [Act.put, List.setIfInBounds_toArray, List.set_cons_zero, List.set_cons_succ]
                refine wpAnyH_take (i := 20) (oi := { dst := some 99, op := _, type := _, pos := _, after := _, guard := _ }) (v := .int .i32 pb) rfl (by kernel_rfl) (by kernel_rfl) (by kernel_rfl) (fun _ _ _ h => h) (Or.inl ⟨by rfl, fun W hW => ?_⟩) hS ?_
                · (have hcell := (hW.cell (World.block_lt_of_cell? _ _ HB0.out)).trans HB0.out; go_simp)
                try simp only [Act.put, List.setIfInBounds_toArray, List.set_cons_zero, List.set_cons_succ]
                refine wpAnyH_take (i := 21) (oi := { dst := some 100, op := _, type := _, pos := _, after := _, guard := _ }) (v := .bool E) rfl (by kernel_rfl) (by kernel_rfl) (by kernel_rfl) (fun _ _ _ h => h) (Or.inl ⟨by rfl, fun W hW => ?_⟩) hS ?_
                · (rw [← HE.out]; go_simp)
                try simp only [Act.put, List.setIfInBounds_toArray, List.set_cons_zero, List.set_cons_succ]
                refine wpAnyH_take (i := 22) (oi := { dst := some 101, op := _, type := _, pos := _, after := _, guard := _ }) (v := .bool E) rfl (by kernel_rfl) (by kernel_rfl) (by kernel_rfl) (fun _ _ _ h => h) (Or.inl ⟨by rfl, fun W hW => ?_⟩) hS ?_
                · (go_simp)
                try simp only [Act.put, List.setIfInBounds_toArray, List.set_cons_zero, List.set_cons_succ]
                refine wpAnyH_take (i := 23) (oi := { dst := some 102, op := _, type := _, pos := _, after := _, guard := _ }) (v := .bool true) rfl (by kernel_rfl) (by kernel_rfl) (by kernel_rfl) (fun _ _ _ h => h) (Or.inl ⟨by rfl, fun W hW => ?_⟩) hS ?_
                · (go_simp)
                try simp only [Act.put, List.setIfInBounds_toArray, List.set_cons_zero, List.set_cons_succ]
                refine wpAnyH_take (i := 24) (oi := { dst := some 6, op := _, type := _, pos := _, after := _, guard := _ }) (v := .bool true) rfl (by kernel_rfl) (by kernel_rfl) (by kernel_rfl) (fun _ _ _ h => h) (Or.inl ⟨by rfl, fun W hW => ?_⟩) hS ?_
                · (go_simp)
                try simp only [Act.put, List.setIfInBounds_toArray, List.set_cons_zero, List.set_cons_succ]
                refine wpAnyH_done (by kernel_rfl) ?_ _
                go_wp2
                go_ret
                exact ⟨rfl, below_then HB.out HB.out.size B5.out⟩
              · have q1 : (Q != 0) = true := bne_iff_ne.2 hq
                by_cases hpq : P = Q
                · have HSM := Aside0.mk (hsw2 (.inr (.inr hpq)))
                  clear hsw1 hsw2
                  subst hpq
                  go_upto_region 13 with (fail)
                  refine wp_region_held_drew (S := fun W => Below W0.heap.size W0 W) (by kernel_rfl) (((Drawn0.refl W0).step 1).below) (fun hS => ?_)
                  refine wpAnyH_take (i := 0) (oi := { dst := some 79, op := _, type := _, pos := _, after := _, guard := _ }) (v := .slice Ax X cx) rfl (by kernel_rfl) (by kernel_rfl) (by kernel_rfl) (fun _ _ _ h => h) (Or.inl ⟨by rfl, fun W hW => ?_⟩) hS ?_
                  · (go_simp)
                  try simp only [Act.put, List.setIfInBounds_toArray, List.set_cons_zero, List.set_cons_succ]
                  refine wpAnyH_take (i := 1) (oi := { dst := some 80, op := _, type := _, pos := _, after := _, guard := _ }) (v := .slice Ay Y cy) rfl (by kernel_rfl) (by kernel_rfl) (by kernel_rfl) (fun _ _ _ h => h) (Or.inl ⟨by rfl, fun W hW => ?_⟩) hS ?_
                  · (go_simp)
                  try simp only [Act.put, List.setIfInBounds_toArray, List.set_cons_zero, List.set_cons_succ]
                  refine wpAnyH_take (i := 3) (oi := { dst := some 82, op := _, type := _, pos := _, after := _, guard := _ }) (v := .int .i64 P) rfl (by kernel_rfl) (by kernel_rfl) (by kernel_rfl) (fun _ _ _ h => h) (Or.inl ⟨by rfl, fun W hW => ?_⟩) hS ?_
                  · (go_simp)
                  try simp only [Act.put, List.setIfInBounds_toArray, List.set_cons_zero, List.set_cons_succ]
                  refine wpAnyH_take (i := 4) (oi := { dst := some 83, op := _, type := _, pos := _, after := _, guard := _ }) (v := .bool true) rfl (by kernel_rfl) (by kernel_rfl) (by kernel_rfl) (fun _ _ _ h => h) (Or.inl ⟨by rfl, fun W hW => ?_⟩) hS ?_
                  · (go_simp)
                  try simp only [Act.put, List.setIfInBounds_toArray, List.set_cons_zero, List.set_cons_succ]
                  refine wpAnyH_ready (rs := [2]) (by kernel_rfl) (by simp) ?_
                  refine AllReadyH.cons (o := { dst := some 81, op := _, type := _, pos := _, after := _, guard := _ }) rfl (fun K hK => ?_) AllReadyH.nil
                  go_simp
                  (go_at_call 24)
                  refine (NSameR _ (HG0.out.below ((Drawn0.refl W0).step 1).below) Ax Ay X cx Y cy x y (Kd.C_below HCx.out ((Drawn0.refl W0).step 1).below) HXL.out hcx (Kd.C_below HCy.out ((Drawn0.refl W0).step 1).below) HYL.out hcy HX32.out HY32.out (by have := HXS.out; omega) (by have := HYS.out; omega)).mono ?_
                  rintro e w5 ⟨rfl, p1⟩
                  rw [HSM.out]
                  have B5 := Aside0.mk (below_then ((Drawn0.refl W0).step 1).below ((Drawn0.refl W0).step 1).below.size p1)
                  clear p1
                  go_wp2_with fail
                  refine hK.out _ _ B5.out (fun hS2 => ?_)
                  clear hK K hS
                  have hS := hS2
                  clear hS2
                  try simp only [Act.put, List.setIfInBounds_toArray, List.set_cons_zero, List.set_cons_succ]
                  refine wpAnyH_take (i := 5) (oi := { dst := some 84, op := _, type := _, pos := _, after := _, guard := _ }) (v := .bool true) rfl (by kernel_rfl) (by kernel_rfl) (by kernel_rfl) (fun _ _ _ h => h) (Or.inl ⟨by rfl, fun W hW => ?_⟩) hS ?_
                  · (go_simp)
                  try simp only [Act.put, List.setIfInBounds_toArray, List.set_cons_zero, List.set_cons_succ]
                  refine wpAnyH_take (i := 6) (oi := { dst := some 85, op := _, type := _, pos := _, after := _, guard := _ }) (v := .int .i64 P) rfl (by kernel_rfl) (by kernel_rfl) (by kernel_rfl) (fun _ _ _ h => h) (Or.inl ⟨by rfl, fun W hW => ?_⟩) hS ?_
                  · (go_simp)
                  try simp only [Act.put, List.setIfInBounds_toArray, List.set_cons_zero, List.set_cons_succ]
                  refine wpAnyH_take (i := 7) (oi := { dst := some 86, op := _, type := _, pos := _, after := _, guard := _ }) (v := .bool true) rfl (by kernel_rfl) (by kernel_rfl) (by kernel_rfl) (fun _ _ _ h => h) (Or.inl ⟨by rfl, fun W hW => ?_⟩) hS ?_
                  · (go_simp)
                  try simp only [Act.put, List.setIfInBounds_toArray, List.set_cons_zero, List.set_cons_succ]
                  refine wpAnyH_take (i := 8) (oi := { dst := some 87, op := _, type := _, pos := _, after := _, guard := _ }) (v := .bool true) rfl (by kernel_rfl) (by kernel_rfl) (by kernel_rfl) (fun _ _ _ h => h) (Or.inl ⟨by rfl, fun W hW => ?_⟩) hS ?_
                  · (go_simp)
                  try simp only [Act.put, List.setIfInBounds_toArray, List.set_cons_zero, List.set_cons_succ]
                  refine wpAnyH_take (i := 9) (oi := { dst := some 88, op := _, type := _, pos := _, after := _, guard := _ }) (v := .bool true) rfl (by kernel_rfl) (by kernel_rfl) (by kernel_rfl) (fun _ _ _ h => h) (Or.inl ⟨by rfl, fun W hW => ?_⟩) hS ?_
                  · (go_simp)
                  try simp only [Act.put, List.setIfInBounds_toArray, List.set_cons_zero, List.set_cons_succ]
                  refine wpAnyH_take (i := 10) (oi := { dst := some 89, op := _, type := _, pos := _, after := _, guard := _ }) (v := .int .i64 P) rfl (by kernel_rfl) (by kernel_rfl) (by kernel_rfl) (fun _ _ _ h => h) (Or.inl ⟨by rfl, fun W hW => ?_⟩) hS ?_
                  · (go_simp)
                  try simp only [Act.put, List.setIfInBounds_toArray, List.set_cons_zero, List.set_cons_succ]
                  refine wpAnyH_take (i := 11) (oi := { dst := some 90, op := _, type := _, pos := _, after := _, guard := _ }) (v := .int .i64 P) rfl (by kernel_rfl) (by kernel_rfl) (by kernel_rfl) (fun _ _ _ h => h) (Or.inl ⟨by rfl, fun W hW => ?_⟩) hS ?_
                  · (go_simp)
                  try simp only [Act.put, List.setIfInBounds_toArray, List.set_cons_zero, List.set_cons_succ]
                  refine wpAnyH_take (i := 12) (oi := { dst := some 91, op := _, type := _, pos := _, after := _, guard := _ }) (v := .bool false) rfl (by kernel_rfl) (by kernel_rfl) (by kernel_rfl) (fun _ _ _ h => h) (Or.inl ⟨by rfl, fun W hW => ?_⟩) hS ?_
                  · (go_simp)
                  try simp only [Act.put, List.setIfInBounds_toArray, List.set_cons_zero, List.set_cons_succ]
                  refine wpAnyH_take (i := 13) (oi := { dst := some 92, op := _, type := _, pos := _, after := _, guard := _ }) (v := .bool false) rfl (by kernel_rfl) (by kernel_rfl) (by kernel_rfl) (fun _ _ _ h => h) (Or.inl ⟨by rfl, fun W hW => ?_⟩) hS ?_
                  · (go_simp)
                  try simp only [Act.put, List.setIfInBounds_toArray, List.set_cons_zero, List.set_cons_succ]
                  refine wpAnyH_take (i := 14) (oi := { dst := some 93, op := _, type := _, pos := _, after := _, guard := _ }) (v := .bool false) rfl (by kernel_rfl) (by kernel_rfl) (by kernel_rfl) (fun _ _ _ h => h) (Or.inl ⟨by rfl, fun W hW => ?_⟩) hS ?_
                  · (go_simp)
                  try simp only [Act.put, List.setIfInBounds_toArray, List.set_cons_zero, List.set_cons_succ]
                  refine wpAnyH_take (i := 15) (oi := { dst := some 94, op := _, type := _, pos := _, after := _, guard := _ }) (v := .slice (some ada) 1 ca) rfl (by kernel_rfl) (by kernel_rfl) (by kernel_rfl) (fun _ _ _ h => h) (Or.inl ⟨by rfl, fun W hW => ?_⟩) hS ?_
                  · (go_simp)
                  try simp only [Act.put, List.setIfInBounds_toArray, List.set_cons_zero, List.set_cons_succ]
                  refine wpAnyH_take (i := 16) (oi := { dst := some 95, op := _, type := _, pos := _, after := _, guard := _ }) (v := .pointer (some ada)) rfl (by kernel_rfl) (by kernel_rfl) (by kernel_rfl) (fun _ _ _ h => h) (Or.inl ⟨by rfl, fun W hW => ?_⟩) hS ?_
                  · (go_simp)
                  try simp only [Act.put, List.setIfInBounds_toArray, List.set_cons_zero, List.set_cons_succ]
                  refine wpAnyH_take (i := 17) (oi := { dst := some 96, op := _, type := _, pos := _, after := _, guard := _ }) (v := .int .i32 pa) rfl (by kernel_rfl) (by kernel_rfl) (by kernel_rfl) (fun _ _ _ h => h) (Or.inl ⟨by rfl, fun W hW => ?_⟩) hS ?_
                  · (have hcell := (hW.cell (World.block_lt_of_cell? _ _ HA0.out)).trans HA0.out; go_simp)
                  try simp only [Act.put, List.setIfInBounds_toArray, List.set_cons_zero, List.set_cons_succ]
                  refine wpAnyH_take (i := 18) (oi := { dst := some 97, op := _, type := _, pos := _, after := _, guard := _ }) (v := .slice (some adb) 1 cb) rfl (by kernel_rfl) (by kernel_rfl) (by kernel_rfl) (fun _ _ _ h => h) (Or.inl ⟨by rfl, fun W hW => ?_⟩) hS ?_
                  · (go_simp)
                  try simp only [Act.put, List.setIfInBounds_toArray, List.set_cons_zero, List.set_cons_succ]
                  refine wpAnyH_take (i := 19) (oi := { dst := some 98, op := _, type := _, pos := _, after := _, guard := _ }) (v := .pointer (some adb)) rfl (by kernel_rfl) (by kernel_rfl) (by kernel_rfl) (fun _ _ _ h => h) (Or.inl ⟨by rfl, fun W hW => ?_⟩) hS ?_
                  · (go_simp)
                  try simp only [Act.put, List.setIfInBounds_toArray, List.set_cons_zero, List.set_cons_succ]
                  refine wpAnyH_take (i := 20) (oi := { dst := some 99, op := _, type := _, pos := _, after := _, guard := _ }) (v := .int .i32 pb) rfl (by kernel_rfl) (by kernel_rfl) (by kernel_rfl) (fun _ _ _ h => h) (Or.inl ⟨by rfl, fun W hW => ?_⟩) hS ?_
                  · (have hcell := (hW.cell (World.block_lt_of_cell? _ _ HB0.out)).trans HB0.out; go_simp)
                  try simp only [Act.put, List.setIfInBounds_toArray, List.set_cons_zero, List.set_cons_succ]
                  refine wpAnyH_take (i := 21) (oi := { dst := some 100, op := _, type := _, pos := _, after := _, guard := _ }) (v := .bool E) rfl (by kernel_rfl) (by kernel_rfl) (by kernel_rfl) (fun _ _ _ h => h) (Or.inl ⟨by rfl, fun W hW => ?_⟩) hS ?_
                  · (rw [← HE.out]; go_simp)
                  try simp only [Act.put, List.setIfInBounds_toArray, List.set_cons_zero, List.set_cons_succ]
                  refine wpAnyH_take (i := 22) (oi := { dst := some 101, op := _, type := _, pos := _, after := _, guard := _ }) (v := .bool E) rfl (by kernel_rfl) (by kernel_rfl) (by kernel_rfl) (fun _ _ _ h => h) (Or.inl ⟨by rfl, fun W hW => ?_⟩) hS ?_
                  · (go_simp)
                  try simp only [Act.put, List.setIfInBounds_toArray, List.set_cons_zero, List.set_cons_succ]
                  refine wpAnyH_take (i := 23) (oi := { dst := some 102, op := _, type := _, pos := _, after := _, guard := _ }) (v := .bool true) rfl (by kernel_rfl) (by kernel_rfl) (by kernel_rfl) (fun _ _ _ h => h) (Or.inl ⟨by rfl, fun W hW => ?_⟩) hS ?_
                  · (go_simp)
                  try simp only [Act.put, List.setIfInBounds_toArray, List.set_cons_zero, List.set_cons_succ]
                  refine wpAnyH_take (i := 24) (oi := { dst := some 6, op := _, type := _, pos := _, after := _, guard := _ }) (v := .bool true) rfl (by kernel_rfl) (by kernel_rfl) (by kernel_rfl) (fun _ _ _ h => h) (Or.inl ⟨by rfl, fun W hW => ?_⟩) hS ?_
                  · (go_simp)
                  try simp only [Act.put, List.setIfInBounds_toArray, List.set_cons_zero, List.set_cons_succ]
                  refine wpAnyH_done (by kernel_rfl) ?_ _
                  go_wp2
                  go_ret
                  exact ⟨rfl, below_then HB.out HB.out.size B5.out⟩
                · have HSM := Aside0.mk (hsw1 ⟨hp, hq, hpq⟩)
                  have pq1 : (P != Q) = true := bne_iff_ne.2 hpq
                  clear hsw1 hsw2
                  go_upto_region 13 with (fail)
                  refine wp_region_held_drew (S := fun W => Below W0.heap.size W0 W) (by kernel_rfl) (((Drawn0.refl W0).step 1).below) (fun hS => ?_)
                  refine wpAnyH_take (i := 0) (oi := { dst := some 79, op := _, type := _, pos := _, after := _, guard := _ }) (v := .slice Ax X cx) rfl (by kernel_rfl) (by kernel_rfl) (by kernel_rfl) (fun _ _ _ h => h) (Or.inl ⟨by rfl, fun W hW => ?_⟩) hS ?_
                  · (go_simp)
                  try simp only [Act.put, List.setIfInBounds_toArray, List.set_cons_zero, List.set_cons_succ]
                  refine wpAnyH_take (i := 1) (oi := { dst := some 80, op := _, type := _, pos := _, after := _, guard := _ }) (v := .slice Ay Y cy) rfl (by kernel_rfl) (by kernel_rfl) (by kernel_rfl) (fun _ _ _ h => h) (Or.inl ⟨by rfl, fun W hW => ?_⟩) hS ?_
                  · (go_simp)
                  try simp only [Act.put, List.setIfInBounds_toArray, List.set_cons_zero, List.set_cons_succ]
                  refine wpAnyH_take (i := 3) (oi := { dst := some 82, op := _, type := _, pos := _, after := _, guard := _ }) (v := .int .i64 P) rfl (by kernel_rfl) (by kernel_rfl) (by kernel_rfl) (fun _ _ _ h => h) (Or.inl ⟨by rfl, fun W hW => ?_⟩) hS ?_
                  · (go_simp)
                  try simp only [Act.put, List.setIfInBounds_toArray, List.set_cons_zero, List.set_cons_succ]
                  refine wpAnyH_take (i := 4) (oi := { dst := some 83, op := _, type := _, pos := _, after := _, guard := _ }) (v := .bool true) rfl (by kernel_rfl) (by kernel_rfl) (by kernel_rfl) (fun _ _ _ h => h) (Or.inl ⟨by rfl, fun W hW => ?_⟩) hS ?_
                  · (go_simp)
                  try simp only [Act.put, List.setIfInBounds_toArray, List.set_cons_zero, List.set_cons_succ]
                  refine wpAnyH_ready (rs := [2]) (by kernel_rfl) (by simp) ?_
                  refine AllReadyH.cons (o := { dst := some 81, op := _, type := _, pos := _, after := _, guard := _ }) rfl (fun K hK => ?_) AllReadyH.nil
                  go_simp
                  (go_at_call 24)
                  refine (NSameR _ (HG0.out.below ((Drawn0.refl W0).step 1).below) Ax Ay X cx Y cy x y (Kd.C_below HCx.out ((Drawn0.refl W0).step 1).below) HXL.out hcx (Kd.C_below HCy.out ((Drawn0.refl W0).step 1).below) HYL.out hcy HX32.out HY32.out (by have := HXS.out; omega) (by have := HYS.out; omega)).mono ?_
                  rintro e w5 ⟨rfl, p1⟩
                  rw [HSM.out]
                  have B5 := Aside0.mk (below_then ((Drawn0.refl W0).step 1).below ((Drawn0.refl W0).step 1).below.size p1)
                  clear p1
                  go_wp2_with fail
                  refine hK.out _ _ B5.out (fun hS2 => ?_)
                  clear hK K hS
                  have hS := hS2
                  clear hS2
                  try simp only [Act.put, List.setIfInBounds_toArray, List.set_cons_zero, List.set_cons_succ]
                  refine wpAnyH_take (i := 5) (oi := { dst := some 84, op := _, type := _, pos := _, after := _, guard := _ }) (v := .bool true) rfl (by kernel_rfl) (by kernel_rfl) (by kernel_rfl) (fun _ _ _ h => h) (Or.inl ⟨by rfl, fun W hW => ?_⟩) hS ?_
                  · (go_simp)
                  try simp only [Act.put, List.setIfInBounds_toArray, List.set_cons_zero, List.set_cons_succ]
                  refine wpAnyH_take (i := 6) (oi := { dst := some 85, op := _, type := _, pos := _, after := _, guard := _ }) (v := .int .i64 Q) rfl (by kernel_rfl) (by kernel_rfl) (by kernel_rfl) (fun _ _ _ h => h) (Or.inl ⟨by rfl, fun W hW => ?_⟩) hS ?_
                  · (go_simp)
                  try simp only [Act.put, List.setIfInBounds_toArray, List.set_cons_zero, List.set_cons_succ]
                  refine wpAnyH_take (i := 7) (oi := { dst := some 86, op := _, type := _, pos := _, after := _, guard := _ }) (v := .bool true) rfl (by kernel_rfl) (by kernel_rfl) (by kernel_rfl) (fun _ _ _ h => h) (Or.inl ⟨by rfl, fun W hW => ?_⟩) hS ?_
                  · (go_simp)
                  try simp only [Act.put, List.setIfInBounds_toArray, List.set_cons_zero, List.set_cons_succ]
                  refine wpAnyH_take (i := 8) (oi := { dst := some 87, op := _, type := _, pos := _, after := _, guard := _ }) (v := .bool true) rfl (by kernel_rfl) (by kernel_rfl) (by kernel_rfl) (fun _ _ _ h => h) (Or.inl ⟨by rfl, fun W hW => ?_⟩) hS ?_
                  · (go_simp)
                  try simp only [Act.put, List.setIfInBounds_toArray, List.set_cons_zero, List.set_cons_succ]
                  refine wpAnyH_take (i := 9) (oi := { dst := some 88, op := _, type := _, pos := _, after := _, guard := _ }) (v := .bool true) rfl (by kernel_rfl) (by kernel_rfl) (by kernel_rfl) (fun _ _ _ h => h) (Or.inl ⟨by rfl, fun W hW => ?_⟩) hS ?_
                  · (go_simp)
                  try simp only [Act.put, List.setIfInBounds_toArray, List.set_cons_zero, List.set_cons_succ]
                  refine wpAnyH_take (i := 10) (oi := { dst := some 89, op := _, type := _, pos := _, after := _, guard := _ }) (v := .int .i64 P) rfl (by kernel_rfl) (by kernel_rfl) (by kernel_rfl) (fun _ _ _ h => h) (Or.inl ⟨by rfl, fun W hW => ?_⟩) hS ?_
                  · (go_simp)
                  try simp only [Act.put, List.setIfInBounds_toArray, List.set_cons_zero, List.set_cons_succ]
                  refine wpAnyH_take (i := 11) (oi := { dst := some 90, op := _, type := _, pos := _, after := _, guard := _ }) (v := .int .i64 Q) rfl (by kernel_rfl) (by kernel_rfl) (by kernel_rfl) (fun _ _ _ h => h) (Or.inl ⟨by rfl, fun W hW => ?_⟩) hS ?_
                  · (go_simp)
                  try simp only [Act.put, List.setIfInBounds_toArray, List.set_cons_zero, List.set_cons_succ]
                  refine wpAnyH_take (i := 12) (oi := { dst := some 91, op := _, type := _, pos := _, after := _, guard := _ }) (v := .bool true) rfl (by kernel_rfl) (by kernel_rfl) (by kernel_rfl) (fun _ _ _ h => h) (Or.inl ⟨by rfl, fun W hW => ?_⟩) hS ?_
                  · (go_simp)
                  try simp only [Act.put, List.setIfInBounds_toArray, List.set_cons_zero, List.set_cons_succ]
                  refine wpAnyH_take (i := 13) (oi := { dst := some 92, op := _, type := _, pos := _, after := _, guard := _ }) (v := .bool true) rfl (by kernel_rfl) (by kernel_rfl) (by kernel_rfl) (fun _ _ _ h => h) (Or.inl ⟨by rfl, fun W hW => ?_⟩) hS ?_
                  · (go_simp)
                  try simp only [Act.put, List.setIfInBounds_toArray, List.set_cons_zero, List.set_cons_succ]
                  refine wpAnyH_take (i := 14) (oi := { dst := some 93, op := _, type := _, pos := _, after := _, guard := _ }) (v := .bool true) rfl (by kernel_rfl) (by kernel_rfl) (by kernel_rfl) (fun _ _ _ h => h) (Or.inl ⟨by rfl, fun W hW => ?_⟩) hS ?_
                  · (go_simp)
                  try simp only [Act.put, List.setIfInBounds_toArray, List.set_cons_zero, List.set_cons_succ]
                  refine wpAnyH_take (i := 15) (oi := { dst := some 94, op := _, type := _, pos := _, after := _, guard := _ }) (v := undef) rfl (by kernel_rfl) (by kernel_rfl) (by kernel_rfl) (fun _ _ _ h => h) (Or.inr ⟨by rfl, rfl⟩) hS ?_
                  try simp only [Act.put, List.setIfInBounds_toArray, List.set_cons_zero, List.set_cons_succ]
                  refine wpAnyH_take (i := 16) (oi := { dst := some 95, op := _, type := _, pos := _, after := _, guard := _ }) (v := undef) rfl (by kernel_rfl) (by kernel_rfl) (by kernel_rfl) (fun _ _ _ h => h) (Or.inr ⟨by rfl, rfl⟩) hS ?_
                  try simp only [Act.put, List.setIfInBounds_toArray, List.set_cons_zero, List.set_cons_succ]
                  refine wpAnyH_take (i := 17) (oi := { dst := some 96, op := _, type := _, pos := _, after := _, guard := _ }) (v := undef) rfl (by kernel_rfl) (by kernel_rfl) (by kernel_rfl) (fun _ _ _ h => h) (Or.inr ⟨by rfl, rfl⟩) hS ?_
                  try simp only [Act.put, List.setIfInBounds_toArray, List.set_cons_zero, List.set_cons_succ]
                  refine wpAnyH_take (i := 18) (oi := { dst := some 97, op := _, type := _, pos := _, after := _, guard := _ }) (v := undef) rfl (by kernel_rfl) (by kernel_rfl) (by kernel_rfl) (fun _ _ _ h => h) (Or.inr ⟨by rfl, rfl⟩) hS ?_
                  try simp only [Act.put, List.setIfInBounds_toArray, List.set_cons_zero, List.set_cons_succ]
                  refine wpAnyH_take (i := 19) (oi := { dst := some 98, op := _, type := _, pos := _, after := _, guard := _ }) (v := undef) rfl (by kernel_rfl) (by kernel_rfl) (by kernel_rfl) (fun _ _ _ h => h) (Or.inr ⟨by rfl, rfl⟩) hS ?_
                  try simp only [Act.put, List.setIfInBounds_toArray, List.set_cons_zero, List.set_cons_succ]
                  refine wpAnyH_take (i := 20) (oi := { dst := some 99, op := _, type := _, pos := _, after := _, guard := _ }) (v := undef) rfl (by kernel_rfl) (by kernel_rfl) (by kernel_rfl) (fun _ _ _ h => h) (Or.inr ⟨by rfl, rfl⟩) hS ?_
                  try simp only [Act.put, List.setIfInBounds_toArray, List.set_cons_zero, List.set_cons_succ]
                  refine wpAnyH_take (i := 21) (oi := { dst := some 100, op := _, type := _, pos := _, after := _, guard := _ }) (v := undef) rfl (by kernel_rfl) (by kernel_rfl) (by kernel_rfl) (fun _ _ _ h => h) (Or.inr ⟨by rfl, rfl⟩) hS ?_
                  try simp only [Act.put, List.setIfInBounds_toArray, List.set_cons_zero, List.set_cons_succ]
                  refine wpAnyH_take (i := 22) (oi := { dst := some 101, op := _, type := _, pos := _, after := _, guard := _ }) (v := .bool true) rfl (by kernel_rfl) (by kernel_rfl) (by kernel_rfl) (fun _ _ _ h => h) (Or.inl ⟨by rfl, fun W hW => ?_⟩) hS ?_
                  · (go_simp)
                  try simp only [Act.put, List.setIfInBounds_toArray, List.set_cons_zero, List.set_cons_succ]
                  refine wpAnyH_take (i := 23) (oi := { dst := some 102, op := _, type := _, pos := _, after := _, guard := _ }) (v := .bool true) rfl (by kernel_rfl) (by kernel_rfl) (by kernel_rfl) (fun _ _ _ h => h) (Or.inl ⟨by rfl, fun W hW => ?_⟩) hS ?_
                  · (go_simp)
                  try simp only [Act.put, List.setIfInBounds_toArray, List.set_cons_zero, List.set_cons_succ]
                  refine wpAnyH_take (i := 24) (oi := { dst := some 6, op := _, type := _, pos := _, after := _, guard := _ }) (v := .bool true) rfl (by kernel_rfl) (by kernel_rfl) (by kernel_rfl) (fun _ _ _ h => h) (Or.inl ⟨by rfl, fun W hW => ?_⟩) hS ?_
                  · (go_simp)
                  try simp only [Act.put, List.setIfInBounds_toArray, List.set_cons_zero, List.set_cons_succ]
                  refine wpAnyH_done (by kernel_rfl) ?_ _
                  go_wp2
                  go_ret
                  exact ⟨rfl, below_then HB.out HB.out.size B5.out⟩
end Go.Proofs.YtiggjbclbdikmaaDoor.Lsw
namespace Go.Proofs.YtiggjbclbdikmaaDoor.X
open Go.RowKit Go.Proofs.YtiggjbclbdikmaaDoorW.PrintWords Go.Proofs.YtiggjbclbdikmaaDoor.Vp0
def tremalaw03_NormSwaps.f (l : List Int) (cut a b : Int) : Option Bool := if Cn.ok32 l = true ∧ l.length ≤ 1048576 ∧ (-9223372036854775808 ≤ cut ∧ cut ≤ 9223372036854775807) ∧ Cn.ok32 [a, b] = true then some true else none
theorem tremalaw03_NormSwaps.calls (A0 : Option Addr) (c0 : Nat) (l0 : List Int) (cut a b : Int) (r : Bool) (w : World) (hr0 : Kd.C (Kd.int .i32) w A0 l0.length l0) (hc0 : l0.length ≤ c0) (h : tremalaw03_NormSwaps.f l0 cut a b = some r) (hG0 : Va.G w) :
  Calls Tryd.prog 8 #[.slice A0 l0.length c0, .int .i64 cut, .agg #[.int .i32 a, .int .i32 b]] w fun e w' => e = .returned (.bool r) ∧ Below w.heap.size w w' := by
  unfold tremalaw03_NormSwaps.f at h
  split at h
  · rename_i hh
    cases Option.some.inj h
    have h2 := Cn.ok32_of hh.2.2.2
    exact Lsw.swaps w hG0 A0 l0 c0 hr0 hc0 (Cn.ok32_of hh.1) hh.2.1 cut hh.2.2.1 a b (h2 a (by simp)) (h2 b (by simp))
  · cases h
theorem tremalaw03_NormSwaps.pure (l : List Int) (hwf : ∀ x ∈ l, (Lit.int .i32 x).wf = true) (hl : l.length ≤ 1048576) (cut : Int) (hq : (Lit.int .i64 cut).wf = true) (a b : Int) (ha : (Lit.int .i32 a).wf = true) (hb : (Lit.int .i32 b).wf = true) : tremalaw03_NormSwaps.f l cut a b = some true := by
  have hcb : -9223372036854775808 ≤ cut ∧ cut ≤ 9223372036854775807 := by simp [Lit.wf, IntKind.min, IntKind.max, IntKind.signed, IntKind.bits] at hq; exact hq
  unfold tremalaw03_NormSwaps.f
  rw [if_pos ⟨Cn.ok32_mk (fun x hx => wf32 (hwf x hx)), hl, hcb, Cn.ok32_mk (fun x hx => by rcases List.mem_cons.1 hx with rfl | hx; (· exact wf32 ha); (· rw [List.mem_singleton.1 hx]; exact wf32 hb))⟩]
end Go.Proofs.YtiggjbclbdikmaaDoor.X
namespace Go.Proofs.YtiggjbclbdikmaaDoor.Od
set_option linter.unusedVariables false
set_option linter.unusedSimpArgs false
open Go.RowKit Go.Proofs.YtiggjbclbdikmaaDoorW.PrintWords Go.Proofs.YtiggjbclbdikmaaDoor.Hp Go.ChangeShapes Go.WideShapes
def Opens {α : Type} (P : Program) (t : TypeId) (d : Kd α) (wf : α → Prop) (bulk : α → Nat) : Prop :=
  ∀ (H : Type) (enc : TypeId × Value → H) (w : World) (base : Nat) (spare : Nat → Bool) (held : Bool) (fuel : Nat) (cs : List Value) (x : DataW H × List MemPlace),
    DataW.trod enc P w base spare held fuel t cs = some x → ∃ a, d.K w a cs ∧ wf a ∧ bulk a ≤ Rows.uptoBulk x.1
def sumB {α : Type} (bulk : α → Nat) : List α → Nat
  | [] => 0
  | a :: l => bulk a + sumB bulk l
theorem sumB_len {α : Type} {bulk : α → Nat} (h1 : ∀ a, 1 ≤ bulk a) (l : List α) : l.length ≤ sumB bulk l := by
  induction l with
  | nil => simp [sumB]
  | cons x l ih => simp only [sumB, List.length_cons]; have := h1 x; omega
theorem bulkAll_append {H : Type} (l r : List (DataW H)) : Rows.uptoBulkAll (l ++ r) = Rows.uptoBulkAll l + Rows.uptoBulkAll r := by
  induction l with
  | nil => simp [Rows.uptoBulkAll]
  | cons x l ih => simp only [List.cons_append, Rows.uptoBulkAll, ih]; omega
section
variable {P : Program}
theorem opens_int {t : TypeId} {k : IntKind} (ht : P.underlying t = some (.int k)) : Opens P t (Kd.int k) (fun n => (Lit.int k n).wf = true) (fun _ => 1) := by
  intro H enc w base spare held fuel cs x h
  obtain ⟨n, rfl, rfl, hw⟩ := DataW.trod_int ht h
  exact ⟨n, rfl, hw, by simp [Rows.uptoBulk]⟩
theorem slice_list {α : Type} {d : Kd α} {wf : α → Prop} {bulk : α → Nat} {e : TypeId} {H : Type} {enc : TypeId × Value → H} {w : World} {base : Nat} {spare : Nat → Bool} {held : Bool} (ho : Opens P e d wf bulk) (hC : P.cellsOf e = d.sz) {a : Addr} {m n : Nat} {D : Nat → DataW H} {Pl : Nat → List MemPlace}
    (hx : ∀ i, i < m → ∃ cs', w.cells? base (a.add (i * P.cellsOf e)) (P.cellsOf e) = some cs' ∧ DataW.trod enc P w base spare held n e cs' = some (D i, Pl i)) (len : Nat) (hl : len ≤ m) (hM : len ≤ 9223372036854775807) :
    ∃ xs : List α, xs.length = len ∧ d.C w (some a) len xs ∧ (∀ x, x ∈ xs → wf x) ∧ sumB bulk xs ≤ Rows.uptoBulkAll ((List.range len).map D) := by
  have key : ∀ k, k ≤ len → ∃ xs : List α, xs.length = k ∧ (∀ j p, xs[j]? = some p → ∃ c, c.length = d.sz ∧ d.K w p c ∧ ∀ i u, c[i]? = some u → w.cell? (a.add (j * d.sz + i)) = some u) ∧ (∀ x, x ∈ xs → wf x) ∧ sumB bulk xs ≤ Rows.uptoBulkAll ((List.range k).map D) := by
    intro k
    induction k with
    | zero => exact fun _ => ⟨[], rfl, by simp, by simp, by simp [sumB]⟩
    | succ k ih =>
      intro hk
      obtain ⟨xs, h1, h2, h3, h4⟩ := ih (by omega)
      obtain ⟨cs', hc, ht⟩ := hx k (by omega)
      obtain ⟨p, hK, hw, hb⟩ := ho H enc w base spare held n cs' _ ht
      obtain ⟨_, hcl, hcell⟩ := World.cells?_some hc
      refine ⟨xs ++ [p], by simp [h1], ?_, ?_, ?_⟩
      · intro j q hq
        rw [List.getElem?_append] at hq
        split at hq
        · exact h2 j q hq
        · rename_i hge
          rcases Nat.lt_or_ge (j - xs.length) 1 with h5 | h5
          · have hj : j = k := by omega
            subst hj
            rw [h1, Nat.sub_self] at hq
            simp at hq
            subst hq
            refine ⟨cs', by rw [hcl, hC], hK, fun i u hu => ?_⟩
            have hi : i < P.cellsOf e := by rw [← hcl]; exact (List.getElem?_eq_some_iff.1 hu).1
            have := hcell i hi
            rw [Go.Deep.add_add, hC] at this
            rw [this, hu]
          · rw [List.getElem?_eq_none (by simpa using h5)] at hq; cases hq
      · intro x hx
        rcases List.mem_append.1 hx with hx | hx
        · exact h3 x hx
        · rw [List.mem_singleton.1 hx]; exact hw
      · have e2 : sumB bulk (xs ++ [p]) = sumB bulk xs + bulk p := by
          clear h1 h2 h3 h4
          induction xs with
          | nil => simp [sumB]
          | cons y ys ih2 => simp only [List.cons_append, sumB, ih2]; omega
        rw [e2, List.range_succ, List.map_append, bulkAll_append]
        simp only [List.map_cons, List.map_nil, Rows.uptoBulkAll]
        have hb2 : bulk p ≤ Rows.uptoBulk (D k) := hb
        omega
  obtain ⟨xs, h1, h2, h3, h4⟩ := key len (Nat.le_refl _)
  exact ⟨xs, h1, ⟨h1, hM, fun _ => ⟨a, rfl, h2⟩⟩, h3, h4⟩
theorem open_arr2 {t e : TypeId} {q : IntKind} (ht : P.underlying t = some (.array 2 e)) (he : P.underlying e = some (.int q)) (hCe : P.cellsOf e = 1) (hC : P.cellsOf t = 2)
    {H : Type} {enc : TypeId × Value → H} {w : World} {base : Nat} {spare : Nat → Bool} {held : Bool} {v : Value} {data : DataW H} {ps : List MemPlace} {r : Reach} {b0 : Nat} (hv : Value.okWide P w r b0 t v) (h : DataW.Trod enc P w base spare held t v data ps) :
    ∃ a b : Int, v = .agg #[.int q a, .int q b] ∧ data = .agg [.lit (.int q a), .lit (.int q b)] ∧ ps = [] ∧ (Lit.int q a).wf = true ∧ (Lit.int q b).wf = true := by
  simp only [Value.okWide, ht] at hv
  obtain ⟨cs, rfl, hsz, -⟩ := hv
  rw [hC] at hsz
  obtain ⟨fuel, hf⟩ := h
  obtain ⟨xs, m, -, hx, hl, hxl, hi⟩ := DataW.trod_array ht hf
  obtain ⟨hx1, hx2⟩ := Prod.mk.inj hx
  subst hx1 hx2
  match xs, hxl with
  | [y0, y1], _ =>
    have g0 := hi 0 (by decide)
    have g1 := hi 1 (by decide)
    simp only [hCe, List.getElem?_cons_zero, List.getElem?_cons_succ, Nat.zero_mul, Nat.one_mul, List.drop_zero] at g0 g1
    obtain ⟨a, e1, rfl, wa⟩ := DataW.trod_int he g0
    obtain ⟨b, e2, rfl, wb⟩ := DataW.trod_int he g1
    refine ⟨a, b, ?_, by simp, by simp, wa, wb⟩
    have hL : cs.toList.length = 2 := by simpa using hsz
    simp only [Value.cells] at e1 e2
    match hcs : cs.toList, hL with
    | [c0, c1], _ =>
      rw [hcs] at e1 e2
      simp at e1 e2
      subst e1 e2
      congr 1
      apply Array.ext'
      rw [hcs]
theorem arg_slice {α : Type} {d : Kd α} {wf : α → Prop} {bulk : α → Nat} {t e : TypeId} (ht : P.underlying t = some (.slice e)) (hC : P.cellsOf e = d.sz) (ho : Opens P e d wf bulk)
    {H : Type} {enc : TypeId × Value → H} {w : World} {base : Nat} {spare : Nat → Bool} {held : Bool} {v : Value} {data : DataW H} {ps : List MemPlace} {r : Reach} {b0 : Nat} (hv : Value.okWide P w r b0 t v) (h : DataW.Trod enc P w base spare held t v data ps) :
    ∃ A xs c, v = .slice A xs.length c ∧ xs.length ≤ c ∧ d.C w A xs.length xs ∧ (∀ x, x ∈ xs → wf x) ∧ sumB bulk xs + 1 ≤ Rows.uptoBulk data ∧
      (∀ (ts : List TypeId) (ds : List (DataW H)) (j B : Nat), (DataW.weightsEach P ts ds).all (· ≤ reachBytes) = true → ts[j]? = some t → ds[j]? = some data → P.bytesOf e = B → xs.length * B ≤ 140737488351232) := by
  obtain ⟨a0, len0, cap0, rfl⟩ := okWide_slice ht hv
  obtain ⟨fuel, hf⟩ := h
  rcases Go.Deep.open_slice ht hf with ⟨hcs, hx⟩ | ⟨a, len, cap, m, n, D, Pl, hcs, hb, hl, hm, hmm, hx, hi⟩
  · simp [Value.cells] at hcs
    obtain ⟨rfl, rfl, rfl⟩ := hcs
    obtain ⟨rfl, rfl⟩ := Prod.mk.inj hx
    exact ⟨none, [], 0, rfl, Nat.le_refl _, Kd.C_nil d w, by simp, by simp [sumB, Rows.uptoBulk], by simp⟩
  · simp [Value.cells] at hcs
    obtain ⟨rfl, rfl, rfl⟩ := hcs
    obtain ⟨rfl, rfl⟩ := Prod.mk.inj hx
    obtain ⟨xs, h1, h2, h3, h4⟩ := slice_list ho hC hi len0 (by rw [hmm]; split <;> omega) (by simp only [maxLen] at hm; omega)
    subst h1
    refine ⟨some a, xs, cap0, rfl, hl, h2, h3, by simp only [Rows.uptoBulk]; omega, ?_⟩
    intro ts ds j B hsz htj hdj hB
    have z := sized_slice hsz htj hdj ht
    rw [hB] at z
    have hr : reachBytes = 140737488351232 := by decide
    simp only [List.length_map, List.length_range] at z
    rw [hr] at z
    exact Nat.le_trans (Nat.mul_le_mul_right _ (by omega)) z
end
end Go.Proofs.YtiggjbclbdikmaaDoor.Od
namespace Go.Proofs.YtiggjbclbdikmaaDoor.Lv
set_option linter.unusedVariables false
set_option linter.unusedSimpArgs false
open Go.ChangeShapes Go.WideShapes Go.ChangeAt Go.RowKit Go.Proofs.YtiggjbclbdikmaaDoorW.PrintWords Go.Proofs.YtiggjbclbdikmaaDoor.Va
theorem ints_of_array {H : Type} {enc : TypeId × Value → H} {P : Program} {w : World} {base : Nat} {sp : Nat → Bool} {held : Bool} {fuel : Nat} {t e : TypeId} {k : IntKind} {n : Nat} {cs : List Value} {l : List Int} {p : List MemPlace}
    (ht : P.underlying t = some (.array n e)) (he : P.underlying e = some (.int k)) (hC : P.cellsOf e = 1) (hT : P.cellsOf t = n) (h : DataW.trod enc P w base sp held fuel t cs = some (.agg (l.map fun x => .lit (.int k x)), p)) : cs = nums k l := by
  obtain ⟨xs, m, -, hx, hl, hxl, hi⟩ := DataW.trod_array ht h
  obtain ⟨hx1, -⟩ := Prod.mk.inj hx
  injection hx1 with hx1
  have hln : l.length = n := by have := congrArg List.length hx1; simpa [hxl] using this
  rw [hT] at hl
  unfold nums
  refine List.ext_getElem (by simp [hl, hln]) fun i h1 h2 => ?_
  have hin : i < n := by omega
  have hxi := hi i hin
  rw [hC, Nat.mul_one, List.getElem?_eq_getElem (by omega : i < xs.length)] at hxi
  obtain ⟨z, e1, e2, -⟩ := DataW.trod_int he hxi
  have e3 : (xs[i]'(by omega)).1 = DataW.lit (.int k (l[i]'(by omega))) := by
    have := congrArg (fun q => q[i]?) hx1
    simp [List.getElem?_eq_getElem (show i < l.length by omega), List.getElem?_eq_getElem (show i < xs.length by omega)] at this
    exact this.symm
  rw [e2] at e3
  injection e3 with e3
  injection e3 with _ e3
  have e4 : cs[i]'h1 = .int k z := by
    rw [List.drop_eq_getElem_cons h1, List.take_succ_cons, List.take_zero] at e1
    exact (List.cons.inj e1).1
  rw [e4, List.getElem_map, e3]
theorem triples_of_array {H : Type} {enc : TypeId × Value → H} {P : Program} {w : World} {base : Nat} {sp : Nat → Bool} {held : Bool} {fuel : Nat} {t e e3 : TypeId} {n : Nat} {cs : List Value} {l : List (Int × Int × Int)} {p : List MemPlace}
    (ht : P.underlying t = some (.array n e)) (he : P.underlying e = some (.array 3 e3)) (he3 : P.underlying e3 = some (.int .i32)) (hC3 : P.cellsOf e3 = 1) (hC : P.cellsOf e = 3) (hT : P.cellsOf t = n * 3) (h : DataW.trod enc P w base sp held fuel t cs = some (.agg (l.map fun x => .agg ([x.1, x.2.1, x.2.2].map fun y => .lit (.int .i32 y))), p)) : cs = cells3 l := by
  obtain ⟨xs, m, -, hx, hl, hxl, hi⟩ := DataW.trod_array ht h
  obtain ⟨hx1, -⟩ := Prod.mk.inj hx
  injection hx1 with hx1
  have hln : l.length = n := by have := congrArg List.length hx1; simpa [hxl] using this
  rw [hT] at hl
  have key : ∀ i (hin : i < l.length), (cs.drop (i * 3)).take 3 = nums .i32 [l[i].1, l[i].2.1, l[i].2.2] := by
    intro i hin
    have hxi := hi i (by omega)
    rw [hC, List.getElem?_eq_getElem (by omega : i < xs.length)] at hxi
    have e3' : (xs[i]'(by omega)).1 = DataW.agg ([l[i].1, l[i].2.1, l[i].2.2].map fun y => .lit (.int .i32 y)) := by
      have := congrArg (fun q => q[i]?) hx1
      simp [List.getElem?_eq_getElem (show i < l.length by omega), List.getElem?_eq_getElem (show i < xs.length by omega)] at this
      exact this.symm
    rw [show xs[i]'(by omega) = ((xs[i]'(by omega)).1, (xs[i]'(by omega)).2) from rfl, e3'] at hxi
    exact ints_of_array he he3 hC3 hC hxi
  clear hi hx1 hx hxl ht h
  have go : ∀ (l : List (Int × Int × Int)) (cs : List Value), cs.length = l.length * 3 → (∀ i (hin : i < l.length), (cs.drop (i * 3)).take 3 = nums .i32 [l[i].1, l[i].2.1, l[i].2.2]) → cs = cells3 l := by
    intro l
    induction l with
    | nil => intro cs h1 _; exact List.eq_nil_of_length_eq_zero (by simpa using h1)
    | cons x r ih =>
      intro cs h1 h2
      have h0 := h2 0 (by simp)
      have hr := ih (cs.drop 3) (by rw [List.length_drop, h1]; simp; omega) (fun i hin => by
        have := h2 (i + 1) (by simp; omega)
        rw [List.drop_drop, show 3 + i * 3 = (i + 1) * 3 by omega]
        exact this)
      rw [Nat.zero_mul, List.drop_zero] at h0
      rw [← List.take_append_drop 3 cs, h0, hr]
      rfl
  exact go l cs (by omega) key
abbrev laid : List (String × DataW Unit) := [("trema/ucd.classes", Rows.laid_trema_ucd_classes), ("trema/ucd.pairs", Rows.laid_trema_ucd_pairs), ("trema/ucd.marks", Rows.laid_trema_ucd_marks)]
theorem d0 : (Rows.laid_trema_ucd_classes : DataW Unit) = .agg (clsT.map fun x => .agg ([x.1, x.2.1, x.2.2].map fun y => .lit (.int .i32 y))) := by kernel_rfl
theorem d1 : (Rows.laid_trema_ucd_pairs : DataW Unit) = .agg (prsT.map fun x => .agg ([x.1, x.2.1, x.2.2].map fun y => .lit (.int .i32 y))) := by kernel_rfl
theorem d2 : (Rows.laid_trema_ucd_marks : DataW Unit) = .agg (mksT.map fun y => .lit (.int .i32 y)) := by kernel_rfl
theorem door_met (os : Os) (args : Array Value) : laidMetH Tryd.prog laid ((World.doorLaid Tryd.prog 400 os).forCall (fun _ _ => 0) ⟨#[], args, []⟩).memory :=
  laidMetH_of_parts3 (fuel := 8) (laidMet_of_run' 8 (by kernel_rfl) (by kernel_rfl)) (by kernel_rfl) (by kernel_rfl)
theorem of_laid {W : World} (h : laidMetH Tryd.prog laid W) : G W := by
  rw [MakeChecks.laidMetH_plain _ _ _ (by kernel_rfl)] at h
  obtain ⟨ps, ⟨g0, t0, cs0, f0, p0, q0, hg0, ht0, hv0, hd0, ⟨g1, t1, cs1, f1, p1, q1, hg1, ht1, hv1, hd1, ⟨g2, t2, cs2, f2, p2, q2, hg2, ht2, hv2, hd2, _, _⟩, _⟩, _⟩, _, _⟩ := h
  obtain rfl := Option.some.inj ((show Tryd.prog.globalNamed "trema/ucd.classes" = some 0 by kernel_rfl).symm.trans hg0)
  obtain rfl := Option.some.inj ((show Tryd.prog.globalNamed "trema/ucd.pairs" = some 1 by kernel_rfl).symm.trans hg1)
  obtain rfl := Option.some.inj ((show Tryd.prog.globalNamed "trema/ucd.marks" = some 2 by kernel_rfl).symm.trans hg2)
  obtain rfl := Option.some.inj ((show (Tryd.prog.globals[0]?).map (·.type) = some 100 by kernel_rfl).symm.trans ht0)
  obtain rfl := Option.some.inj ((show (Tryd.prog.globals[1]?).map (·.type) = some 106 by kernel_rfl).symm.trans ht1)
  obtain rfl := Option.some.inj ((show (Tryd.prog.globals[2]?).map (·.type) = some 114 by kernel_rfl).symm.trans ht2)
  rw [d0] at hd0
  rw [d1] at hd1
  rw [d2] at hd2
  have c0 := triples_of_array Tryd.underlying100 Tryd.underlying99 Tryd.underlying21 (by kernel_rfl) (by kernel_rfl) (by kernel_rfl) hd0
  have c1 := triples_of_array Tryd.underlying106 Tryd.underlying99 Tryd.underlying21 (by kernel_rfl) (by kernel_rfl) (by kernel_rfl) hd1
  have c2 := ints_of_array Tryd.underlying114 Tryd.underlying21 (by kernel_rfl) (by kernel_rfl) hd2
  refine ⟨fun j v hv => ?_, fun j v hv => ?_, fun j v hv => ?_⟩
  · have := World.var?_cell hg0 hv0 j
    rw [← Array.getElem?_toList, c0, hv] at this
    simpa using this
  · have := World.var?_cell hg1 hv1 j
    rw [← Array.getElem?_toList, c1, hv] at this
    simpa using this
  · have := World.var?_cell hg2 hv2 j
    rw [← Array.getElem?_toList, c2, hv] at this
    simpa using this
end Go.Proofs.YtiggjbclbdikmaaDoor.Lv
namespace Go.Proofs.YtiggjbclbdikmaaDoor.normSwaps
open Go.ChangeShapes Go.WideShapes Go.ChangeAt Go.RowKit
open Go.ChangeMaps (open_string shut_string)
set_option linter.unusedVariables false
set_option linter.unusedSimpArgs false
theorem own : ownKnob Tryd.prog.godebug = none := by kernel_rfl
theorem laidOut : laidOutB Tryd.prog = true := by kernel_rfl
set_option maxRecDepth 100000 in
theorem contract (H : Type) (enc : TypeId × Value → H) (W : World) (base : Nat) (args : Array Value) (ds gs : List (DataW H)) (before : List MemPlace)
    (hval0 : ∀ (j : Nat) t v, Tryd.f8.params[j]? = some t → args[j]? = some v → Value.okWide Tryd.prog W .any base t v)
    (hW : DataW.Whole enc Tryd.prog Tryd.f8.params.toList Rows.normSwapsSpec.vars false W args.toList ds gs before)
    (hL : laidMetH Tryd.prog Lv.laid W)
    (hk0 : Rows.uptoSmall H (ds ++ gs) = true) :
    Calls Tryd.prog 8 args W fun e W' => ∃ v, e = .returned v ∧ Rows.normSwapsSpec.post enc Tryd.prog Tryd.f8 false true false false W args v W' := by
  have hkb : Rows.uptoBulkAll (ds ++ gs) ≤ 1048576 := of_decide_eq_true hk0
  have hval : ∀ (j : Nat) t v, Tryd.f8.params[j]? = some t → args[j]? = some v → Value.okWide Tryd.prog W .any base t v := hval0
  have hW' := hW
  obtain ⟨p, q, hA0, hV, rfl, hfz, hnd⟩ := hW
  have hA : DataW.TrodAll enc Tryd.prog W 0 (fun _ => true) true Tryd.f8.params.toList args.toList ds p := hA0
  rw [Tryd.params8] at hA hval
  obtain ⟨v0, vs0, d0, ds0, p0, q0, hargs, rfl, rfl, h0, r0⟩ := trodAll_cons hA
  obtain ⟨v1, vs1, d1, ds1, p1, q1, rfl, rfl, rfl, h1, r1⟩ := trodAll_cons r0
  obtain ⟨v2, vs2, d2, ds2, p2, q2, rfl, rfl, rfl, h2, r2⟩ := trodAll_cons r1
  obtain ⟨rfl, rfl, rfl⟩ := trodAll_nil r2
  obtain rfl : args = #[v0, v1, v2] := by cases args; simp_all
  obtain ⟨rfl, rfl⟩ := trodVars_none hV
  have k0 := h0
  have lt0 : ∀ x ∈ p0, x.block < W.heap.size := by obtain ⟨m, hm⟩ := k0; exact DataW.trod_lt m _ _ _ hm
  obtain ⟨A0, xs0, c0, rfl, hc0, hC0, hw0, hb0, hz0⟩ := Od.arg_slice Tryd.underlying22 (by kernel_rfl) (Od.opens_int Tryd.underlying21) (hval 0 22 v0 rfl rfl) h0
  obtain ⟨a1, rfl, rfl, rfl, w1⟩ := open_int Tryd.underlying3 (hval 1 3 v1 rfl rfl) h1
  have k2 := h2
  have lt2 : ∀ x ∈ p2, x.block < W.heap.size := by obtain ⟨m, hm⟩ := k2; exact DataW.trod_lt m _ _ _ hm
  obtain ⟨a2, b2, rfl, rfl, rfl, w2, x2⟩ := Od.open_arr2 Tryd.underlying43 Tryd.underlying21 (by kernel_rfl) (by kernel_rfl) (hval 2 43 v2 rfl rfl) h2
  simp only [List.append_nil, Rows.uptoBulkAll] at hkb
  have hB0 := Nat.le_trans (Nat.le_trans (Nat.le_succ _) hb0) (show Rows.uptoBulk d0 ≤ 1048576 by omega)
  clear hA0 hval0 hk0
  have hk := Go.Proofs.YtiggjbclbdikmaaDoor.X.tremalaw03_NormSwaps.pure xs0 hw0 (Nat.le_trans (Od.sumB_len (fun _ => Nat.le_refl _) _) hB0) a1 w1 a2 b2 w2 x2
  refine (Go.Proofs.YtiggjbclbdikmaaDoor.X.tremalaw03_NormSwaps.calls A0 c0 xs0 a1 a2 b2 true W hC0 hc0 hk (Lv.of_laid hL)).mono fun e W' ⟨he, bel⟩ => ?_
  subst he
  exact ⟨_, rfl, _, _, _, [], _, [], hW', trodAll_mk1 (shut_bool Tryd.underlying4 _), (trodAll_cons_mk (Below.trod laidOut (by kernel_rfl) (of_decide_eq_true (by kernel_rfl)) k0 bel lt0) (trodAll_cons_mk (shut_int Tryd.underlying3 w1) (trodAll_cons_mk (Below.trod laidOut (by kernel_rfl) (of_decide_eq_true (by kernel_rfl)) k2 bel lt2) trodAll_mk0))), rfl, bel.frame _, fun h => by cases h⟩
set_option maxRecDepth 100000 in
theorem lifted (os : Os) (started : os.Started) (H : Type) (enc : TypeId × Value → H) (F : Stop.Interp) :
    ReturnsInHanded {} Tryd.checked os 8 .any ((Rows.OpenSpec.upto Rows.normSwapsSpec).preRow enc Tryd.prog Tryd.f8 Rows.normSwapsUptoRow.domain false Rows.normSwapsUptoRow.laid) (((Rows.OpenSpec.upto Rows.normSwapsSpec).at F).post enc Tryd.prog Tryd.f8 false true false false) := by
  refine returnsInHanded_of_row (C := Tryd.checked) (s := Rows.OpenSpec.upto Rows.normSwapsSpec) own started (by kernel_rfl) Tryd.func8
    (witness_row_atRef (enc := enc) (C := Tryd.checked) false (World.doorLaid Tryd.prog 400 os) #[(.slice none 0 0), (.int .i64 0), (.agg #[(.int .i32 0), (.int .i32 0)])] rfl (by kernel_rfl) (by kernel_rfl) (by kernel_rfl)
      (OpenSpec.preRow_of_cond (x := ([.nil, .lit (.int .i64 0), .agg [.lit (.int .i32 0), .lit (.int .i32 0)]], [], [])) 8 (by kernel_rfl) (by kernel_rfl) (fun k hk => by cases hk; kernel_rfl) (by kernel_rfl) (Lv.door_met os _))) ?_
  intro W base args ds gs before hval hW _ hcond _ hL _ _
  exact contract H enc W base args ds gs before hval hW hL (hcond _ rfl)
theorem proved : Rows.NormSwapsUptoSaid :=
  OpenClaim.holds_of_cond 8 Tryd.f8 rfl rfl rfl rfl rfl rfl rfl ⟨rfl, rfl, rfl, rfl, rfl⟩ rfl rfl rfl rfl rfl (by kernel_rfl) Tryd.func8 (by kernel_rfl)
    (of_decide_eq_true (by kernel_rfl)) (by unfold Func.isWrapper; first | (rw [if_pos (by decide +kernel)]; kernel_rfl) | (rw [if_neg (by decide +kernel)]; exact ⟨rfl, rfl⟩))
    (fun os started H enc _ F => by rw [OpenClaim.pre_eq_preRow]; exact lifted os started H enc F)
end Go.Proofs.YtiggjbclbdikmaaDoor.normSwaps
namespace Go.Proofs.YtiggjbclbdikmaaDoor
theorem normSwaps_holds : Rows.NormSwapsUptoCardSaid :=
  Claim7.holds_tied_plain_at .later [] [.data, .data, .data] true (true, "fdf6c36acc2ff838e2b06de7c88b3a207dcf6760465f25f192835ebb1407940d") false
    normSwaps.proved (fun _ h => by cases h) (by kernel_rfl) (fun _ h => by cases h) normSwapsUpto_row_tie rfl ⟨rfl, rfl⟩ (by kernel_rfl) rfl
    (fun f fn hf hfn => by
      obtain rfl : f = 8 := Option.some.inj ((show Tryd.prog.funcNamed "trema/tremalaw03.NormSwaps" = some 8 by kernel_rfl).symm.trans hf) |>.symm
      obtain rfl : fn = Tryd.f8 := (Option.some.inj (Tryd.func8.symm.trans hfn)).symm
      exact ⟨by kernel_rfl, fun j t ht => by
        rw [Tryd.params8] at ht
        have hm : t ∈ [22, 3, 43] := by simpa using Array.mem_of_getElem? ht
        have hall : ([22, 3, 43].all fun u => !Tryd.prog.wantsStandIn u) = true := by kernel_rfl
        exact (show Tryd.prog.wantsStandIn t = false by simpa using List.all_eq_true.1 hall t hm)⟩)
    (by kernel_rfl)
#print axioms normSwaps_holds
end Go.Proofs.YtiggjbclbdikmaaDoor
