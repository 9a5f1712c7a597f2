/-
  Several texts of this claim in one: what its law's proof uses.
-/
import Derived.Test.YtiggjbclbdikmaaDoorMSS4
import Derived.Test.YtiggjbclbdikmaaDoorMSS8
import Derived.Test.YtiggjbclbdikmaaDoorMSS2
import Derived.Test.YtiggjbclbdikmaaDoorMSS5
namespace Go.Proofs.YtiggjbclbdikmaaDoor.Fr
set_option linter.unusedVariables false
set_option linter.unusedSimpArgs false
open Go.RowKit Go.Proofs.YtiggjbclbdikmaaDoorW.PrintWords Go.Proofs.YtiggjbclbdikmaaDoorW.PrintLast Go.Proofs.YtiggjbclbdikmaaDoorW.PrintMore Go.Proofs.YtiggjbclbdikmaaDoor.Hp Go.Proofs.YtiggjbclbdikmaaDoor.Va Go.Proofs.YtiggjbclbdikmaaDoor.Vd Go.Proofs.YtiggjbclbdikmaaDoor.Ve Go.Proofs.YtiggjbclbdikmaaDoor.Na Go.Proofs.YtiggjbclbdikmaaDoor.Nb Go.Proofs.YtiggjbclbdikmaaDoor.Nc Go.Proofs.YtiggjbclbdikmaaDoor.Ns Go.Proofs.YtiggjbclbdikmaaDoor.Ng Go.Proofs.YtiggjbclbdikmaaDoor.X
def WritePost (w : World) (g base : Nat) (all : List Int) (e : Ending) (w' : World) : Prop :=
  ∃ A, e = .returned (.slice A (sure all) (sure all)) ∧ Row w' A (sure all) (ordL (all.take (sure all))) ∧ (∀ ad, A = some ad → w.heap.size ≤ ad.block) ∧
    IsForm g base (all.drop (sure all)) false (fun b => b = g ∨ (w.heap.size ≤ b ∧ ∀ ad, A = some ad → b ≠ ad.block)) w' ∧ Chg (fun b => b = g) w w'
theorem own_R {w : World} {base : Nat} {e : TypeId} {v : Value} {xs : List Int} (h : w.ownsRow base e 1 v xs.length (nums .i32 xs)) : K3.R e w base (fun b => base ≤ b) v xs :=
  Kd.R_of_own (enc := Value.int .i32) (h1 := fun _ => rfl) h (fun k hk => own_base h k hk)
theorem cut3 (A : Option Addr) (n c m : Nat) (hm : m ≤ n) : ∃ A' : Option Addr, (∀ W : World, (Instr.slice 22 (.slice A n c) (some (.int .i64 (m : Int))) none none).run Tryd.prog W = .ok (.slice A' (n - m) (c - m)) W) ∧
    ∀ (w : World) (xs : List Int), n ≤ c → ReadsInt w .i32 A n xs → ReadsInt w .i32 A' (n - m) (xs.drop m) := by
  obtain ⟨i, hi, hs⟩ := Option.map_eq_some_iff.1 info21
  have hsz : i.size = 1 := by have := congrArg (fun q => q.2.1) hs; simpa using this
  obtain ⟨A', h1, h2⟩ := print_cut (P := Tryd.prog) 22 21 .i64 Tryd.underlying22 hi hsz A n c m hm
  exact ⟨A', h1, fun w xs => h2 w .i32 xs⟩
theorem form_end {w w5 w6 wr : World} {g base : Nat} {kv v5 : Value} {ys : List Int} (F5 : w5.heap[g]? = some (.cells #[kv, .bool false] TF (0, 0))) (P1 : K3.R T3 w5 wr.heap.size (fun b => wr.heap.size ≤ b) v5 ys)
    (hg : g < w.heap.size) (hw : w.heap.size ≤ wr.heap.size) (hbg : base ≤ g) (A : Option Addr) (hA : ∀ ad, A = some ad → ad.block < wr.heap.size ∧ ad.block ≠ g)
    (c6 : Chg (fun b => ∃ ad, A = some ad ∧ b = ad.block) (w5.setCell ⟨g, 0, none⟩ v5) w6) : IsForm g base ys false (fun b => b = g ∨ (w.heap.size ≤ b ∧ ∀ ad, A = some ad → b ≠ ad.block)) w6 := by
  have ch5 : Chg (fun b => b = g) w5 (w5.setCell ⟨g, 0, none⟩ v5) := (Chg.refl (fun b => b = g) w5).setCell (p := ⟨g, 0, none⟩) (.inl rfl) _
  have b6 := c6.heap (blk_set F5 0 v5) (fun ⟨ad, e, h⟩ => (hA ad e).2 h.symm)
  refine ⟨v5, by simpa using b6, hbg, .inl rfl, ?_⟩
  have r1 := R_chg P1 ch5 (fun k hk h => by omega)
  have r2 := R_chg r1 c6 (fun k hk ⟨ad, e, h⟩ => by have := (hA ad e).1; omega)
  exact Kd.R_mono (Kd.R_lower r2 (by omega)) (fun k hk => ⟨.inr ⟨by omega, fun ad e h => by have := (hA ad e).1; omega⟩, by omega⟩)
set_option maxRecDepth 100000 in
set_option maxHeartbeats 8000000 in
theorem Write (w : World) (hG : G w) (g base : Nat) (kept : List Int) (ok : Nat → Prop) (h : IsForm g base kept false ok w) (hb3 : 3 ≤ base) (A : Option Addr) (n c : Nat) (l : List Int) (hC : K3.C w A n l) (hnc : n ≤ c) (hwf : ∀ x ∈ l, -2147483648 ≤ x ∧ x ≤ 2147483647) (hsz : (kept ++ l.flatMap decU).length ≤ 1000000000000) :
    Calls Tryd.prog 31 #[.pointer (some ⟨g, 0, none⟩), .slice A n c] w (WritePost w g base (kept ++ l.flatMap decU)) := by
  obtain ⟨all, hall⟩ : ∃ all, all = kept ++ l.flatMap decU := ⟨_, rfl⟩
  rw [← hall] at hsz ⊢
  have HALL := Aside0.mk hall
  obtain ⟨kv, h1, h2, h3, h4⟩ := h
  obtain ⟨A0, c0, rfl, hc0, hrow, hA⟩ := Row.of h4
  have hkl : kept.length ≤ 1000000000000 := by rw [hall, List.length_append] at hsz; omega
  have hr0 := rdint (hrow.C (by omega))
  have c1 : w.cell? ⟨g, 0, none⟩ = some (.slice A0 kept.length c0) := by simp [World.cell?, h1]
  have c2 : w.cell? ⟨g, 1, none⟩ = some (.bool false) := by simp [World.cell?, h1]
  have HCl := Aside0.mk (Clint32.clone w A0 kept.length c0 kept hr0 (by omega))
  have hn := (rdint hC).1
  obtain ⟨L, hL⟩ : ∃ L, L = kept.length := ⟨_, rfl⟩
  rw [← hL] at c1 HCl
  have HG := Aside0.mk hG
  have HF := Aside0.mk h1
  have HC := Aside0.mk hC
  have HWF := Aside0.mk hwf
  have HSZ := Aside0.mk hsz
  have HN := Aside0.mk hn
  have HL := Aside0.mk hL
  have H23 := Aside0.mk (And.intro h2 (And.intro h3 (And.intro hb3 (blk_lt h1))))
  have HLL := Aside0.mk (show l.length ≤ 1000000000000 by
    have : l.length ≤ (l.flatMap decU).length := by
      clear hall HALL hsz hwf hC hn HCl HC HWF HSZ HN
      induction l with
      | nil => simp
      | cons x t ih =>
        have := List.length_pos_iff.2 (decF_ne 4 x)
        have e : (decU x).length = (decF 4 x).length := rfl
        rw [List.flatMap_cons, List.length_append, List.length_cons, e]
        omega
    rw [hall, List.length_append] at hsz
    omega)
  clear hall hG h1 h2 h3 h4 hc0 hrow hA hkl hr0 hC hwf hsz hn hL hb3
  go_enter Tryd.func31, Tryd.ntmps31
  go_upto_region 4 with (first | (go_at_call 61; go_must (refine HCl.out.mono ?_; rintro e w1 ⟨v, rfl, p1, p2⟩; have HO := Aside0.mk (show K3.R T3 w1 w.heap.size (fun _ => True) v kept by have h := p1; rw [HL.out] at h; exact Kd.R_mono (own_R h) (fun _ _ => trivial)); have HB := Aside0.mk p2; clear p1 p2)))
  go_wp2
  go_loopw [5, 24] (fun v5 v24 wr => ∃ (i : Nat) (xs : List Int), v24 = .int .i64 i ∧ i ≤ n ∧ Aside0 (xs = kept ++ (l.take i).flatMap decU) ∧ Aside0 (K3.R T3 wr w.heap.size (fun _ => True) v5 xs) ∧ Aside0 (Below w.heap.size w wr)) (fun _ v24 _ => n - (intOf v24).toNat)
  case atStart => exact ⟨0, kept, rfl, Nat.zero_le _, ⟨by simp⟩, HO, HB⟩
  case round =>
    clear HO HB
    obtain ⟨i, xs, rfl, hi, HX, HO_3, HB⟩ := hrel
    by_cases hlt : i < n
    · have hd : decide ((i : Int) < (n : Int)) = true := decide_eq_true (by omega)
      have hd2 : decide (i < n) = true := decide_eq_true hlt
      have hil : i < l.length := by have := HN.out; omega
      obtain ⟨ad, rfl, hx⟩ := Kd.at_int HC.out (i : Int) (by omega) (by omega)
      rw [show rd l (i : Int) = l[i] by unfold rd; simp [List.getD_eq_getElem?_getD, List.getElem?_eq_getElem hil], Int.toNat_natCast] at hx
      have hx := (HB.out.cell (World.block_lt_of_cell? w _ hx)).trans hx
      have hn0 : (0 : Int) ≤ (i : Int) := by omega
      have hn1 : (i : Int) < (n : Int) := by omega
      have hnl : n ≤ 1000000000000 := by have := HN.out; have := HLL.out; omega
      obtain ⟨y, hy⟩ : ∃ y : List Int, y = xs ++ decU l[i] := ⟨_, rfl⟩
      have HY := Aside0.mk hy
      have hyl : y = kept ++ (l.take (i + 1)).flatMap decU := by rw [hy, HX.out, List.take_succ_eq_append_getElem hil, List.flatMap_append, List.append_assoc]; simp
      have HYl := Aside0.mk hyl
      have LM := Aside0.mk (show xs.length + (decU l[i]).length < 35184372088832 by
        have h1 := HSZ.out
        have h2 : all.length = y.length + ((l.drop (i + 1)).flatMap decU).length := by
          rw [HALL.out, hyl, ← List.take_append_drop (i + 1) l, List.flatMap_append]
          simp only [List.length_append, List.take_append_drop]
          omega
        have h3 : y.length = xs.length + (decU l[i]).length := by rw [hy, List.length_append]
        omega)
      have A5 := Aside0.mk (show ucd_Decompose.f l[i] = some (decU l[i]) by unfold ucd_Decompose.f; rw [if_pos (HWF.out _ (List.getElem_mem hil))])
      clear hy hyl
      go_wp2_with (first | (go_at_call 53; go_must ((with_reducible refine (ucd_Decompose.calls l[i] (decU l[i]) _ A5.out (Va.G.below HG.out HB.out)).mono ?_); rintro e w7 ⟨v232, rfl, ho0, hb⟩; have n0_ := Aside0.mk (Kd.R_elder' (by (with_reducible repeat (first | apply Kd.R_alloc | apply Kd.R_drewN | apply Kd.R_drew)); exact HO_3.out) (Kd.R_base ho0) hb); have n1_ := Aside0.mk (Kd.R_lower (Kd.R_new' ho0 (Kd.R_lt (by (with_reducible repeat (first | apply Kd.R_alloc | apply Kd.R_drewN | apply Kd.R_drew)); exact HO_3.out))) HB.out.size); have n2_ := Aside0.mk (below_step HB.out hb); clear HO_3; clear HB; have HO_3 := n0_; have HO233 := n1_; have HB := n2_; clear n0_ n1_ n2_; (try clear hb); (try clear ho0); obtain ⟨Ao9, co9, eo9⟩ := Kd.R_slice HO233.out; subst eo9)) | (at_builtin; go_must (refine Kd.R_append_rows K3 (w0 := w) w.heap.size rfl (.tmp 28) (.tmp 30) 22 21 (.int .i32 0) 4 rfl Tryd.underlying22 info21 rfl (by decide) (by omega) u5 xs (decU l[i]) _ _ _ (fun k_ => some k_ ≠ (.slice Ao9 (decU l[i]).length co9 : Value).ownBlock) (fun _ => False) rfl rfl ?aO ?aR (fun _ _ h => h) (fun _ h => h.elim) ?aF ?aB ?aS ?aL ?_; (case aR => exact (Kd.R_reads' HO233.out).2.2); (case aB => exact HB.out); (case aF => exact (fun k_ hk => Kd.fresh' (Kd.R_lt HO233.out) k_ hk)); (case aO => exact Kd.R_mono HO_3.out (fun _ hk => hk.2)); (case aS => exact HB.out.size); (case aL => have := LM.out; omega); intro v235 w8 ho hb hg hat; rw [← HY.out] at ho; have n1_ := Aside0.mk hb; have n2_ := Aside0.mk ho; clear HO233; clear HB; clear HO_3; have HB := n1_; have HO236 := n2_; clear n1_ n2_; clear ho hb hg hat)))
      go_roundw
      case rel => exact ⟨i + 1, y, by go_num, by omega, HYl, ⟨Kd.R_mono HO236.out (fun _ _ => trivial)⟩, HB⟩
      case measure => simp [intOf] <;> omega
    · have hd : decide ((i : Int) < (n : Int)) = false := decide_eq_false (by omega)
      have hd2 : decide (i < n) = false := decide_eq_false hlt
      go_upto_region 9 with (fail)
      have hxs : xs = all := by have := HN.out; rw [HX.out, HALL.out, List.take_of_length_le (by omega)]
      subst hxs
      obtain ⟨Aa, ca, rfl, hca, hrow, hAa⟩ := Row.of HO_3.out
      obtain ⟨M, hM⟩ : ∃ M, M = xs.length := ⟨_, rfl⟩
      have HM := Aside0.mk hM
      have hM5 : M ≤ 1000000000000 := by have := HSZ.out; omega
      rw [← hM]
      rw [← hM] at hca
      have HAa := Aside0.mk hAa
      clear HO_3 HX hM hAa HCl c1 c2 hd hd2 hlt hi
      rcases hrow with ⟨rfl, h0, rfl⟩ | ⟨ga, post, rfl, hR, h1, h2⟩
      · subst h0
        have hM0 : M = 0 := HM.out
        subst hM0
        go_wp2
        go_loopw [8] (fun v8 wr => v8 = .int .i64 0 ∧ Aside0 (Below w.heap.size w wr)) (fun _ _ => 0)
        case atStart => exact ⟨rfl, HB⟩
        case round =>
          clear HB
          obtain ⟨rfl, HB⟩ := hrel
          have HCl2 := Aside0.mk (Clint32.clone wr none 0 0 [] ⟨rfl, by omega, fun h => by omega⟩ (by omega))
          go_upto_region 13 with (first | (go_at_call 61; go_must (refine HCl2.out.mono ?_; rintro e w5 ⟨v5, rfl, p1, p2⟩; have P1 := Aside0.mk (own_R (xs := []) p1); have HB5 := Aside0.mk (below_step HB.out p2); have hb5 := blk_below HF.out HB5.out; have F5 := Aside0.mk hb5; (have c5 : w5.cell? ⟨g, 0, none⟩ = some (.slice A0 kept.length c0) := (by simp [World.cell?, hb5])); (have f5 : w5.frozen? ⟨g, 0, none⟩ = false := (by simp [World.frozen?, hb5])); clear p1 p2 hb5; obtain ⟨A5, ca5, e5⟩ := Kd.R_slice P1.out; subst e5)))
          have HCall := Aside0.mk (OrdN (w5.setCell ⟨g, 0, none⟩ (.slice A5 ([] : List Int).length ca5)))
          go_wp2_with (first | (go_at_call 54; go_must (refine HCall.out.mono ?_; rintro e w6 ⟨rfl, p1⟩; have HC6 := Aside0.mk p1; clear p1)))
          go_ret
          have ch5 : Chg (fun b => b = g) w5 (w5.setCell ⟨g, 0, none⟩ (.slice A5 ([] : List Int).length ca5)) := (Chg.refl (fun b => b = g) w5).setCell (p := ⟨g, 0, none⟩) (.inl rfl) _
          refine ⟨none, rfl, .inl ⟨rfl, rfl, rfl⟩, fun _ h => (by cases h), form_end F5.out P1.out H23.out.2.2.2 HB.out.size H23.out.1 none (fun _ h => (by cases h)) (HC6.out.mono (fun _ _ h => h.elim)), ?_⟩
          exact ((Chg.of_below HB5.out (fun k h1 h2 => by omega)).trans ch5 (fun _ _ h => h)).trans HC6.out (fun _ _ h => h.elim)
      · go_wp2
        go_loopw [8] (fun v8 wr => ∃ N : Nat, v8 = .int .i64 N ∧ N ≤ M ∧ Aside0 (∀ x ∈ xs.drop N, cls x ≠ 0) ∧ Aside0 (Reg wr ga [] post xs) ∧ Aside0 (Below w.heap.size w wr)) (fun v8 _ => (intOf v8).toNat)
        case atStart => exact ⟨M, rfl, Nat.le_refl _, ⟨by rw [HM.out]; simp⟩, ⟨hR⟩, HB⟩
        case round =>
          clear HB hR
          obtain ⟨N, rfl, hNM, HK, HR, HB⟩ := hrel
          rcases Nat.eq_zero_or_pos N with h0 | h0
          · subst h0
            have q1 : decide ((0 : Int) < ((0 : Nat) : Int)) = false := rfl
            have HS := Aside0.mk (sure_of (Nat.zero_le _) HK.out (.inl rfl))
            clear HK
            obtain ⟨A1, hcut, hA1⟩ := cut3 (some ⟨ga, 0, none⟩) M ca (0) (by omega)
            have hcut : ∀ W : World, (Instr.slice 22 (.slice (some ⟨ga, 0, none⟩) M ca) (some (.int .i64 (0))) none none).run Tryd.prog W = .ok (.slice A1 (M - (0)) (ca - (0))) W := fun W => by have := hcut W; simpa using this
            have hrd := hA1 _ xs hca (by rw [HM.out]; exact rdint (Row.C (.inr ⟨ga, post, rfl, HR.out, h1, h2⟩) (by have := HM.out; omega)))
            have HCl2 := Aside0.mk (Clint32.clone _ A1 (M - (0)) (ca - (0)) (xs.drop (0)) hrd (by omega))
            have hga : w.heap.size ≤ ga := (HAa.out _ rfl).1
            have HGA := Aside0.mk (And.intro hga HR.out.lt)
            have HMM := Aside0.mk (And.intro hca (And.intro h1 h2))
            have g1 : (0 : Int) ≤ (0 : Int) := by omega
            have g2 : (0 : Int) ≤ (M : Int) := by omega
            have g3 : (0 : Int) ≤ (ca : Int) := by omega
            clear hA1 hrd hga h1 h2
            go_upto_region 13 with (first | (go_at_call 61; go_must (refine HCl2.out.mono ?_; rintro e w5 ⟨v5, rfl, p1, p2⟩; have P1 := Aside0.mk (own_R p1); have HR5 := Aside0.mk (HR.out.below p2); have HB5 := Aside0.mk (below_step HB.out p2); have hb5 := blk_below HF.out HB5.out; have F5 := Aside0.mk hb5; (have c5 : w5.cell? ⟨g, 0, none⟩ = some (.slice A0 kept.length c0) := (by simp [World.cell?, hb5])); (have f5 : w5.frozen? ⟨g, 0, none⟩ = false := (by simp [World.frozen?, hb5])); clear p1 p2 hb5; obtain ⟨A5, ca5, e5⟩ := Kd.R_slice P1.out; obtain ⟨q5, hq5⟩ : ∃ q5, q5 = (xs.drop (0)).length := ⟨_, rfl⟩; rw [← hq5] at e5; subst e5; clear hq5)))
            have hne : ga ≠ g := by have := HGA.out.1; have := H23.out.2.2.2; omega
            have ch5 : Chg (fun b => b = g) w5 (w5.setCell ⟨g, 0, none⟩ (.slice A5 q5 ca5)) := (Chg.refl (fun b => b = g) w5).setCell (p := ⟨g, 0, none⟩) (.inl rfl) _
            have HCall := Aside0.mk (OrdC (w5.setCell ⟨g, 0, none⟩ (.slice A5 q5 ca5)) (G_chg (HG.out.below HB5.out) ch5 (fun k hk e => by have := H23.out.2.2.1; have := H23.out.1; omega)) (some ⟨ga, 0, none⟩) (0) (xs.take (0)) (.inr ⟨ga, nums .i32 (xs.drop (0)) ++ post, rfl, Reg.mid (pre := []) (P := []) (S := xs.take (0)) (Q := xs.drop (0)) (by rw [List.nil_append, List.take_append_drop]; exact HR5.out.chg ch5 hne), (by rw [List.length_take]; omega), (by have := HMM.out.2.2; omega)⟩) (fun ad e => by cases e; have := H23.out.2.2.1; have := H23.out.1; have := HGA.out.1; have := H23.out.2.2.2; show 3 ≤ ga; omega) (0) (by have := HM.out; rw [List.length_take]; omega) (by omega))
            have HCh5 := Aside0.mk ch5
            have HNE := Aside0.mk hne
            clear ch5 hne
            go_wp2_with (first | (go_at_call 54; go_must (refine HCall.out.mono ?_; rintro e w6 ⟨rfl, p1, p2⟩; have HC6 := Aside0.mk p1; have HR6 := Aside0.mk p2; clear p1 p2)))
            go_ret
            unfold WritePost
            rw [HS.out]
            refine ⟨some ⟨ga, 0, none⟩, rfl, HR6.out, fun ad e => (by cases e; exact HGA.out.1), form_end F5.out P1.out H23.out.2.2.2 HB.out.size H23.out.1 (some ⟨ga, 0, none⟩) (fun ad e => (by cases e; exact ⟨HGA.out.2, HNE.out⟩)) HC6.out, ?_⟩
            refine ((Chg.of_below HB5.out (fun k h1 h2 => by omega)).trans HCh5.out (fun _ _ h => h)).trans HC6.out (fun k hk h => ?_)
            obtain ⟨ad, e, rfl⟩ := h
            cases e
            exact absurd hk (by have := HGA.out.1; show ¬ ga < _; omega)
          · obtain ⟨P, rfl⟩ : ∃ P, N = P + 1 := ⟨N - 1, by omega⟩
            have q1 : decide ((0 : Int) < ((P + 1 : Nat) : Int)) = true := decide_eq_true (by omega)
            have q1b : decide (0 < P + 1) = true := decide_eq_true (by omega)
            have q2 : ((P + 1 : Nat) : Int) - 1 = (P : Int) := by omega
            have q3 : (P : Int) < (M : Int) := by omega
            obtain ⟨x, hx1, hx2, hx3, -⟩ := split_at (S := xs) (t := P) (by have := HM.out; omega)
            have k1 := HR.out
            rw [hx1] at k1
            have k1 := Reg.one k1 (off := 0) rfl (p := P) (by have := HM.out; rw [List.length_take]; omega)
            rw [Nat.zero_add] at k1
            have HX1 := Aside0.mk hx2
            have HX2 := Aside0.mk hx3
            clear hx1 hx2 hx3
            have HCx := Aside0.mk (ClassP wr (HG.out.below HB.out) x)
            by_cases hz : cls x = 0
            · have z1 : (cls x != 0) = false := by rw [hz]; rfl
              have z2 : (cls x == 0) = true := by rw [hz]; rfl
              have HS := Aside0.mk (sure_of (by have := HM.out; omega) HK.out (.inr ⟨_, x, HX2.out, hz⟩))
              clear hz HK
              go_upto_region 12 with (first | (go_at_call 62; go_must (refine HCx.out.mono ?_; rintro e w2 ⟨rfl, p1⟩; have HB2 := Aside0.mk (below_step HB.out p1); have HR2 := Aside0.mk (HR.out.below p1); clear p1 k1 HB HR)))
              have HB := HB2
              have HR := HR2
              clear HB2 HR2
              obtain ⟨A1, hcut, hA1⟩ := cut3 (some ⟨ga, 0, none⟩) M ca (P + 1) (by omega)
              have hcut : ∀ W : World, (Instr.slice 22 (.slice (some ⟨ga, 0, none⟩) M ca) (some (.int .i64 ((P : Int) + 1))) none none).run Tryd.prog W = .ok (.slice A1 (M - (P + 1)) (ca - (P + 1))) W := fun W => by have := hcut W; simpa using this
              have hrd := hA1 _ xs hca (by rw [HM.out]; exact rdint (Row.C (.inr ⟨ga, post, rfl, HR.out, h1, h2⟩) (by have := HM.out; omega)))
              have HCl2 := Aside0.mk (Clint32.clone _ A1 (M - (P + 1)) (ca - (P + 1)) (xs.drop (P + 1)) hrd (by omega))
              have hga : w.heap.size ≤ ga := (HAa.out _ rfl).1
              have HGA := Aside0.mk (And.intro hga HR.out.lt)
              have HMM := Aside0.mk (And.intro hca (And.intro h1 h2))
              have g1 : (0 : Int) ≤ ((P : Int) + 1 : Int) := by omega
              have g2 : ((P : Int) + 1 : Int) ≤ (M : Int) := by omega
              have g3 : ((P : Int) + 1 : Int) ≤ (ca : Int) := by omega
              clear hA1 hrd hga h1 h2
              go_upto_region 13 with (first | (go_at_call 61; go_must (refine HCl2.out.mono ?_; rintro e w5 ⟨v5, rfl, p1, p2⟩; have P1 := Aside0.mk (own_R p1); have HR5 := Aside0.mk (HR.out.below p2); have HB5 := Aside0.mk (below_step HB.out p2); have hb5 := blk_below HF.out HB5.out; have F5 := Aside0.mk hb5; (have c5 : w5.cell? ⟨g, 0, none⟩ = some (.slice A0 kept.length c0) := (by simp [World.cell?, hb5])); (have f5 : w5.frozen? ⟨g, 0, none⟩ = false := (by simp [World.frozen?, hb5])); clear p1 p2 hb5; obtain ⟨A5, ca5, e5⟩ := Kd.R_slice P1.out; obtain ⟨q5, hq5⟩ : ∃ q5, q5 = (xs.drop (P + 1)).length := ⟨_, rfl⟩; rw [← hq5] at e5; subst e5; clear hq5)))
              have hne : ga ≠ g := by have := HGA.out.1; have := H23.out.2.2.2; omega
              have ch5 : Chg (fun b => b = g) w5 (w5.setCell ⟨g, 0, none⟩ (.slice A5 q5 ca5)) := (Chg.refl (fun b => b = g) w5).setCell (p := ⟨g, 0, none⟩) (.inl rfl) _
              have HCall := Aside0.mk (OrdC (w5.setCell ⟨g, 0, none⟩ (.slice A5 q5 ca5)) (G_chg (HG.out.below HB5.out) ch5 (fun k hk e => by have := H23.out.2.2.1; have := H23.out.1; omega)) (some ⟨ga, 0, none⟩) (P + 1) (xs.take (P + 1)) (.inr ⟨ga, nums .i32 (xs.drop (P + 1)) ++ post, rfl, Reg.mid (pre := []) (P := []) (S := xs.take (P + 1)) (Q := xs.drop (P + 1)) (by rw [List.nil_append, List.take_append_drop]; exact HR5.out.chg ch5 hne), (by rw [List.length_take]; omega), (by have := HMM.out.2.2; omega)⟩) (fun ad e => by cases e; have := H23.out.2.2.1; have := H23.out.1; have := HGA.out.1; have := H23.out.2.2.2; show 3 ≤ ga; omega) (P + 1) (by have := HM.out; rw [List.length_take]; omega) (by omega))
              have HCh5 := Aside0.mk ch5
              have HNE := Aside0.mk hne
              clear ch5 hne
              go_wp2_with (first | (go_at_call 54; go_must (refine HCall.out.mono ?_; rintro e w6 ⟨rfl, p1, p2⟩; have HC6 := Aside0.mk p1; have HR6 := Aside0.mk p2; clear p1 p2)))
              go_ret
              unfold WritePost
              rw [HS.out]
              refine ⟨some ⟨ga, 0, none⟩, rfl, HR6.out, fun ad e => (by cases e; exact HGA.out.1), form_end F5.out P1.out H23.out.2.2.2 HB.out.size H23.out.1 (some ⟨ga, 0, none⟩) (fun ad e => (by cases e; exact ⟨HGA.out.2, HNE.out⟩)) HC6.out, ?_⟩
              refine ((Chg.of_below HB5.out (fun k h1 h2 => by omega)).trans HCh5.out (fun _ _ h => h)).trans HC6.out (fun k hk h => ?_)
              obtain ⟨ad, e, rfl⟩ := h
              cases e
              exact absurd hk (by have := HGA.out.1; show ¬ ga < _; omega)
            · have z1 : (cls x != 0) = true := by simpa using hz
              have z2 : (cls x == 0) = false := by simpa using hz
              have HZ := Aside0.mk hz
              clear hz
              go_wp2_with (first | (go_at_call 62; go_must (refine HCx.out.mono ?_; rintro e w2 ⟨rfl, p1⟩; have HB2 := Aside0.mk (below_step HB.out p1); have HR2 := Aside0.mk (HR.out.below p1); clear p1 k1 HB HR)))
              go_roundw
              case rel => exact ⟨P, by go_num, by omega, ⟨fun y hy => by rw [HX1.out] at hy; rcases List.mem_cons.1 hy with rfl | hy; (· exact HZ.out); (· exact HK.out y hy)⟩, HR2, HB2⟩
              case measure => simp [intOf] <;> omega
end Go.Proofs.YtiggjbclbdikmaaDoor.Fr
namespace Go.Proofs.YtiggjbclbdikmaaDoor.Cn
set_option linter.unusedVariables false
set_option linter.unusedSimpArgs false
open Go.Proofs.YtiggjbclbdikmaaDoor.Vd (decU)
open Go.Proofs.YtiggjbclbdikmaaDoor.Fr (sure sure_of K3 T3)
open Go.RowKit Go.Proofs.YtiggjbclbdikmaaDoorW.PrintWords Go.Proofs.YtiggjbclbdikmaaDoor.Ev0 Go.Proofs.YtiggjbclbdikmaaDoor.X Go.Proofs.YtiggjbclbdikmaaDoor.Va Go.Proofs.YtiggjbclbdikmaaDoor.Vp0 Go.Proofs.YtiggjbclbdikmaaDoor.Vr Go.Proofs.YtiggjbclbdikmaaDoor.Vu Go.Proofs.YtiggjbclbdikmaaDoor.Na Go.Proofs.YtiggjbclbdikmaaDoor.Oa Go.Proofs.YtiggjbclbdikmaaDoor.Ob
def ok32 (l : List Int) : Bool := l.all fun x => decide (-2147483648 ≤ x) && decide (x ≤ 2147483647)
theorem ok32_of {l : List Int} (h : ok32 l = true) : ∀ x ∈ l, I32 x := fun x hx => by
  have := List.all_eq_true.1 h x hx
  simp only [Bool.and_eq_true, decide_eq_true_eq] at this
  exact this
theorem NormR (w : World) (hG : G w) (A : Option Addr) (n c : Nat) (l : List Int) (hC : K3.C w A n l) (hn : n = l.length) (hc : n ≤ c) (hwf : ∀ x ∈ l, I32 x) (hl : n ≤ 100000000) :
    Calls Tryd.prog 22 #[.slice A n c] w fun e w' => ∃ v, e = .returned v ∧ K3.R T3 w' w.heap.size (fun _ => True) v (nrm l) ∧ Below w.heap.size w w' := by
  subst hn
  obtain ⟨k, hk⟩ := Ev.rounds (normEv l hwf hl)
  exact norm_Normal.calls k A c l _ w hC hc hk hG
theorem SameR (w : World) (A B : Option Addr) (n c m d : Nat) (l k : List Int) (hC : K3.C w A n l) (hn : n = l.length) (hc : n ≤ c) (hD : K3.C w B m k) (hm : m = k.length) (hd : m ≤ d) (hl : n ≤ 1000000000) (b : Bool) (hb : decide (l = k) = b) :
    Calls Tryd.prog 21 #[.slice A n c, .slice B m d] w fun e w' => e = .returned (.bool b) ∧ Below w.heap.size w w' := by
  subst hn hm hb
  obtain ⟨q, hq⟩ := Ev.rounds (sameEv l k hl)
  exact (tremaref01_SameRunes.calls q A c l B d k _ w hC hc hD hd hq).mono fun e w' ⟨h1, h2⟩ => ⟨h1, h2.below⟩
end Go.Proofs.YtiggjbclbdikmaaDoor.Cn
namespace Go.Proofs.YtiggjbclbdikmaaDoor.Fm
set_option linter.unusedVariables false
set_option linter.unusedSimpArgs false
open Go.RowKit Go.Proofs.YtiggjbclbdikmaaDoorW.PrintWords Go.Proofs.YtiggjbclbdikmaaDoor.Hp
structure Th where
  P : (Nat → Prop) → World → Prop
  loc : ∀ {ok w w'}, P ok w → (∀ k, ok k → k < w.heap.size → w'.heap[k]? = w.heap[k]?) → P ok w'
  bnd : ∀ {ok w}, P ok w → P (fun k => ok k ∧ k < w.heap.size) w
def rowT {α : Type} (d : Kd α) (e : Nat) (base : Nat) (v : Value) (xs : List α) : Th :=
  ⟨fun ok w => d.R e w base ok v xs, fun h hm => Kd.R_step h hm, fun h => Kd.R_mono (Kd.R_bound h) (fun _ hk => ⟨hk.1, hk.2.2.1⟩)⟩
def Sep (w0 : World) (L : List Th) (w : World) : Prop :=
  ∃ ok : Nat → Nat → Prop, (∀ (i : Nat) (T : Th), L[i]? = some T → T.P (ok i) w) ∧ (∀ i j b, i ≠ j → ok i b → ¬ ok j b) ∧ (∀ i b, ok i b → w0.heap.size ≤ b ∧ b < w.heap.size) ∧ Below w0.heap.size w0 w
section
variable {w0 w w' : World} {L : List Th} {T T' T2 : Th}
theorem Sep.below (h : Sep w0 L w) : Below w0.heap.size w0 w := by obtain ⟨_, _, _, _, h⟩ := h; exact h
theorem Sep.nil (w0 : World) : Sep w0 [] w0 := ⟨fun _ _ => False, by simp, by simp, by simp, Below.refl _ _⟩
theorem Sep.start (h : Below w0.heap.size w0 w) : Sep w0 [] w := ⟨fun _ _ => False, by simp, by simp, by simp, h⟩
theorem Sep.later (h : Sep w0 L w) (hb : Below w.heap.size w w') : Sep w0 L w' := by
  obtain ⟨ok, h1, h2, h3, h4⟩ := h
  exact ⟨ok, fun i T hT => T.loc (h1 i T hT) (fun k _ hlt => hb.block k hlt), h2, fun i b hb' => ⟨(h3 i b hb').1, Nat.lt_of_lt_of_le (h3 i b hb').2 hb.size⟩, below_then h4 h4.size hb⟩
theorem Sep.one (h : Sep w0 L w) (i : Nat) (T : Th) (hi : L[i]? = some T) : ∃ ok : Nat → Prop, T.P ok w := by
  obtain ⟨ok, h1, _⟩ := h
  exact ⟨ok i, h1 i T hi⟩
theorem Sep.op2 (h : Sep w0 L w) (i : Nat) (T : Th) (hi : L[i]? = some T) :
    ∃ ok : Nat → Prop, T.P ok w ∧ (∀ b, ok b → w0.heap.size ≤ b) ∧ ∀ (w' : World) (T' T2 : Th) (ok' ok2 : Nat → Prop), T'.P ok' w' → T2.P ok2 w' → (∀ b, ok' b → ok b ∨ w.heap.size ≤ b) → (∀ b, ok2 b → w.heap.size ≤ b) → (∀ b, ok' b → ¬ ok2 b) → Chg ok w w' →
      Sep w0 (L.set i T' ++ [T2]) w' := by
  obtain ⟨ok, h1, h2, h3, h4⟩ := h
  refine ⟨ok i, h1 i T hi, fun b hb => (h3 i b hb).1, fun w' T' T2 ok' ok2 p1 p2 hs hs2 hd hc => ⟨fun j b => if j = i then ok' b ∧ b < w'.heap.size else if j = L.length then ok2 b ∧ b < w'.heap.size else ok j b, ?_, ?_, ?_, ?_⟩⟩
  · intro j U hj
    have hil : i < L.length := (List.getElem?_eq_some_iff.1 hi).1
    rw [List.getElem?_append, List.length_set] at hj
    split at hj
    · rename_i hjl
      by_cases e : j = i
      · subst e
        rw [List.getElem?_set_self hil] at hj
        injection hj with hj
        subst hj
        simp only [if_true]
        exact T'.bnd p1
      · rw [List.getElem?_set_ne (Ne.symm e)] at hj
        simp only [if_neg e, if_neg (show ¬ j = L.length by omega)]
        exact U.loc (h1 j U hj) (fun b hb hlt => hc.keep b hlt (fun hb2 => h2 j i b e hb hb2))
    · rename_i hjl
      rcases Nat.lt_or_ge (j - L.length) 1 with h5 | h5
      · have e : j = L.length := by omega
        subst e
        simp at hj
        subst hj
        simp only [if_neg (show ¬ L.length = i by omega), if_true]
        exact T2.bnd p2
      · rw [List.getElem?_eq_none (by simpa using h5)] at hj; cases hj
  · intro j l b hjl hj hl
    have old : ∀ m c, ok m c → c < w.heap.size := fun m c hm => (h3 m c hm).2
    split at hj
    · split at hl
      · omega
      · split at hl
        · exact hd b hj.1 hl.1
        · rcases hs b hj.1 with h | h
          · rename_i ej el _
            exact h2 i l b (Ne.symm el) h hl
          · have := old l b hl; omega
    · rename_i ej
      split at hj
      · split at hl
        · exact hd b hl.1 hj.1
        · rename_i el
          split at hl
          · omega
          · have := hs2 b hj.1; have := old l b hl; omega
      · split at hl
        · rcases hs b hl.1 with h | h
          · exact h2 j i b ej hj h
          · have := old j b hj; omega
        · split at hl
          · have := hs2 b hl.1; have := old j b hj; omega
          · exact h2 j l b hjl hj hl
  · intro j b hj
    split at hj
    · refine ⟨?_, hj.2⟩
      rcases hs b hj.1 with h | h
      · exact (h3 i b h).1
      · have := h4.size; omega
    · split at hj
      · have := h4.size; have := hs2 b hj.1; exact ⟨by omega, hj.2⟩
      · exact ⟨(h3 j b hj).1, Nat.lt_of_lt_of_le (h3 j b hj).2 hc.size⟩
  · exact hc.below_of h4 (fun b hb => (h3 i b hb).1)
theorem Sep.init (h : Sep w0 (L ++ [T]) w) : Sep w0 L w := by
  obtain ⟨ok, h1, h2, h3, h4⟩ := h
  exact ⟨ok, fun i U hU => h1 i U (by rw [List.getElem?_append_left (List.getElem?_eq_some_iff.1 hU).1]; exact hU), h2, h3, h4⟩
def noT : Th := ⟨fun _ _ => True, fun _ _ => trivial, fun _ => trivial⟩
theorem Sep.op (h : Sep w0 L w) (i : Nat) (T : Th) (hi : L[i]? = some T) :
    ∃ ok : Nat → Prop, T.P ok w ∧ (∀ b, ok b → w0.heap.size ≤ b) ∧ ∀ (w' : World) (T' : Th) (ok' : Nat → Prop), T'.P ok' w' → (∀ b, ok' b → ok b ∨ w.heap.size ≤ b) → Chg ok w w' → Sep w0 (L.set i T') w' := by
  obtain ⟨ok, h1, h2, h3⟩ := h.op2 i T hi
  exact ⟨ok, h1, h2, fun w' T' ok' p1 hs hc => (h3 w' T' noT ok' (fun _ => False) p1 trivial hs (fun _ hb => hb.elim) (fun _ _ hb => hb) hc).init⟩
theorem Sep.new (h : Sep w0 L w) (T : Th) {ok : Nat → Prop} (hs : T.P ok w') (hn : ∀ b, ok b → w.heap.size ≤ b) (hb : Below w.heap.size w w') : Sep w0 (L ++ [T]) w' := by
  have hl := h.later hb
  obtain ⟨oks, h1, h2, h3, h4⟩ := h
  obtain ⟨_, _, _, _, h5⟩ := hl
  refine ⟨fun j b => if j = L.length then ok b ∧ b < w'.heap.size else oks j b, ?_, ?_, ?_, h5⟩
  · intro j U hj
    rw [List.getElem?_append] at hj
    split at hj
    · simp only [if_neg (show ¬ j = L.length by omega)]
      exact U.loc (h1 j U hj) (fun b _ hlt => hb.block b hlt)
    · rcases Nat.lt_or_ge (j - L.length) 1 with h6 | h6
      · have e : j = L.length := by omega
        subst e
        simp at hj
        subst hj
        simp only [if_true]
        exact T.bnd hs
      · rw [List.getElem?_eq_none (by simpa using h6)] at hj; cases hj
  · intro j l b hjl hj hl
    split at hj
    · split at hl
      · omega
      · have := hn b hj.1; have := (h3 l b hl).2; omega
    · split at hl
      · have := hn b hl.1; have := (h3 j b hj).2; omega
      · exact h2 j l b hjl hj hl
  · intro j b hj
    split at hj
    · have := h4.size; have := hn b hj.1; exact ⟨by omega, hj.2⟩
    · exact ⟨(h3 j b hj).1, Nat.lt_of_lt_of_le (h3 j b hj).2 hb.size⟩
theorem Sep.row {α : Type} {d : Kd α} {e base : Nat} {v : Value} {xs : List α} (h : Sep w0 L w) (i : Nat) (hi : L[i]? = some (rowT d e base v xs)) :
    ∃ ok : Nat → Prop, d.R e w base ok v xs ∧ (∀ k, w.heap.size ≤ k → ok k) ∧ ∀ (v1 : Value) (w1 : World) (xs1 : List α), d.R e w1 base ok v1 xs1 → w.grownBy w1 v.ownBlock → Sep w0 (L.set i (rowT d e base v1 xs1)) w1 := by
  obtain ⟨ok, h1, h2, h3⟩ := h.op i _ hi
  have h1' : d.R e w base ok v xs := h1
  exact ⟨fun b => ok b ∨ w.heap.size ≤ b, Kd.R_mono h1' (fun _ hk => .inl hk), fun _ hk => .inr hk, fun v1 w1 xs1 hr hg =>
    h3 w1 (rowT d e base v1 xs1) _ hr (fun _ hb => hb) ((Chg.refl ok w).grown hg (fun k hk => .inl (h1'.1 k hk)))⟩
theorem Sep.reads {α : Type} {d : Kd α} {e base : Nat} {v : Value} {xs : List α} (h : Sep w0 L w) (i : Nat) (hi : L[i]? = some (rowT d e base v xs)) : ∃ A c, v = .slice A xs.length c ∧ xs.length ≤ c ∧ d.C w A xs.length xs := by
  obtain ⟨ok, h1⟩ := h.one i _ hi
  exact Kd.R_reads (show d.R e w base ok v xs from h1)
theorem Sep.empty {α : Type} (d : Kd α) (e base : Nat) (h : Sep w0 L w) : Sep w0 (L ++ [rowT d e base (.slice none 0 0) []]) w :=
  h.new (rowT d e base (.slice none 0 0) []) (ok := fun _ => False) (Kd.R_nil d e w base _) (fun _ h => h.elim) (Below.refl _ _)
end
end Go.Proofs.YtiggjbclbdikmaaDoor.Fm
namespace Go.Proofs.YtiggjbclbdikmaaDoor.X
open Go.RowKit Go.Proofs.YtiggjbclbdikmaaDoorW.PrintWords Go.Proofs.YtiggjbclbdikmaaDoorW.PrintLast Go.Proofs.YtiggjbclbdikmaaDoorW.PrintMore
attribute [local go_sem] max2_int min2_int max_two min_two max_three min_three max_four min_four   
set_option linter.unusedVariables false
set_option linter.unusedSimpArgs false
def utf_lead.j0 : Nat → Int → Int → Int → Bool → Option (Int × Int × Int × Int)
 | 0, _, _, _, _ => none
 | k + 1, x0, x4, x5, x13 => if x13 = true then (some (0, 0, x4, x5)) else (if x0 < 224 then (some (2, wrap32 (Go.bits .and .u8 x0 31), x4, x5)) else (if x0 < 240 then (if x0 = 224 then (some (3, wrap32 (Go.bits .and .u8 x0 15), 160, x5)) else (if x0 = 237 then (some (3, wrap32 (Go.bits .and .u8 x0 15), x4, 159)) else (some (3, wrap32 (Go.bits .and .u8 x0 15), x4, x5)))) else (if x0 = 240 then (some (4, wrap32 (Go.bits .and .u8 x0 7), 144, x5)) else (if x0 = 244 then (some (4, wrap32 (Go.bits .and .u8 x0 7), x4, 143)) else (some (4, wrap32 (Go.bits .and .u8 x0 7), x4, x5))))))
def utf_lead.f (k : Nat) (a0 : Int) : Option (Int × Int × Int × Int) := if a0 < 128 then (some (1, wrap32 (a0), 128, 191)) else (if a0 < 194 then (utf_lead.j0 k a0 128 191 true) else (utf_lead.j0 k a0 128 191 (decide (a0 > 244))))
theorem utf_lead.mono_l : ∀ k, (∀ y0 y1 y2 y3, LeO (utf_lead.j0 k y0 y1 y2 y3) (utf_lead.j0 (k + 1) y0 y1 y2 y3))
 | 0 => fun _ _ _ _ r h => by simp [utf_lead.j0] at h
 | k + 1 => by
  have ih0 := utf_lead.mono_l k
  ·intro y0 y1 y2 y3
   unfold utf_lead.j0
   repeat' first
   | (with_reducible exact ih0 _ _ _ _)
   | (with_reducible exact LeO.refl _)
   | (with_reducible exact LeO.none _)
   | (with_reducible refine LeO.ite ?_ ?_)
   | (with_reducible refine LeO.bind ?_ (fun _ => ?_))
   | exact ih0 _ _ _ _
   | exact LeO.none _
   | refine LeO.ite ?_ ?_
   | refine LeO.bind ?_ (fun _ => ?_)
theorem utf_lead.mono : ∀ a0 k, LeO (utf_lead.f k a0) (utf_lead.f (k + 1) a0) := by
 intro a0 k
 have ih0 := utf_lead.mono_l k
 unfold utf_lead.f
 repeat' first
   | (with_reducible exact ih0 _ _ _ _)
   | (with_reducible exact LeO.refl _)
   | (with_reducible exact LeO.none _)
   | (with_reducible refine LeO.ite ?_ ?_)
   | (with_reducible refine LeO.bind ?_ (fun _ => ?_))
   | exact ih0 _ _ _ _
   | exact LeO.none _
   | refine LeO.ite ?_ ?_
   | refine LeO.bind ?_ (fun _ => ?_)
set_option maxHeartbeats 8000000 in
set_option maxRecDepth 100000 in
theorem utf_lead.calls (k : Nat) (a0 : Int) (r1 : Int) (r2 : Int) (r3 : Int) (r4 : Int) (w : World) (h : utf_lead.f k a0 = some (r1, r2, r3, r4)) :
  Calls Tryd.prog 95 #[.int .u8 a0] w fun e w' => e = .returned (.tuple #[.int .i64 r1, .int .i32 r2, .int .u8 r3, .int .u8 r4]) ∧ Drawn0 w w' := by
 have H : (if a0 < 128 then (some (1, wrap32 (a0), 128, 191)) else (if a0 < 194 then (utf_lead.j0 k a0 128 191 true) else (utf_lead.j0 k a0 128 191 (decide (a0 > 244))))) = some (r1, r2, r3, r4) := h
 clear h
 by_cases c2 : a0 < 128
 ·rw [if_pos c2] at H
  have c2b0 : decide (a0 < 128) = true := decide_eq_true c2
  clear c2
  simp only [Option.some.injEq, Prod.mk.injEq] at H
  obtain ⟨rfl, rfl, rfl, rfl⟩ := H
  go_enter Tryd.func95, Tryd.ntmps95
  go_wp2
  refine bodyPost_ret (results_list (rs := [.tmp 2, .tmp 3, .tmp 4, .tmp 5]) rfl (by simp) (.tmp (.tmp (.tmp (.tmp .nil))))) rfl ?_
  exact ⟨by first | rfl | (simp; done) | (simp [*]; done), by repeat (first | exact Drawn0.refl _ | apply Drawn0.step)⟩
 ·rw [if_neg c2] at H
  have c2b0 : decide (a0 < 128) = false := decide_eq_false c2
  clear c2
  have HC3 := Aside0.mk H
  clear H
  go_enter Tryd.func95, Tryd.ntmps95
  go_upto_region 4 with (fail)
  go_cut [13] (fun v13 wc => ∃ (kq : Nat) (x13_2 : Bool), v13 = .bool x13_2 ∧ Aside0 (utf_lead.j0 kq a0 128 191 x13_2 = some (r1, r2, r3, r4)) ∧ Aside0 (kq ≤ k) ∧ Drawn0 w wc)
  case first =>
   have H := HC3.out
   clear HC3
   by_cases c4 : a0 < 194
   ·rw [if_pos c4] at H
    have c4b0 : decide (a0 < 194) = true := decide_eq_true c4
    clear c4
    (first | rw [c4b0] | (simp only [i64_w, i32_w]; rw [c4b0]) | skip)
    have H' := Aside0.mk H
    clear H
    go_wp2
    go_meet
    case rel => exact ⟨_, (true), (by first | rfl | (simp; done) | (simp [*]; done)), H', ⟨by first | omega | exact Nat.le_refl _⟩, by repeat (first | exact Drawn0.refl _ | apply Drawn0.step)⟩
   ·rw [if_neg c4] at H
    have c4b0 : decide (a0 < 194) = false := decide_eq_false c4
    clear c4
    (first | rw [c4b0] | (simp only [i64_w, i32_w]; rw [c4b0]) | skip)
    have H' := Aside0.mk H
    clear H
    go_wp2
    go_meet
    case rel => exact ⟨_, (decide (a0 > 244)), (by first | rfl | (simp; done) | (simp [*]; done)), H', ⟨by first | omega | exact Nat.le_refl _⟩, by repeat (first | exact Drawn0.refl _ | apply Drawn0.step)⟩
  case rest =>
   clear HC3
   try clear c2
   try clear c2b0
   try clear p2
   try clear p3
   try clear c4
   try clear c4b0
   obtain ⟨kq, x13_2, rfl, HA, HJ2, ⟨mc2, rfl⟩⟩ := hcut
   cases kq with
   | zero => exact absurd HA.out (by simp [utf_lead.j0])
   | succ kj2 =>
    have H := HA.out
    clear HA
    simp only [utf_lead.j0] at H
    by_cases c5 : x13_2 = true
    ·subst c5
     have H1 : (some (0, 0, 128, 191)) = some (r1, r2, r3, r4) := by rw [if_pos rfl] at H; exact H
     clear H
     have H := H1
     clear H1
     simp only [Option.some.injEq, Prod.mk.injEq] at H
     obtain ⟨rfl, rfl, rfl, rfl⟩ := H
     go_wp2
     refine bodyPost_ret (results_list (rs := [.tmp 2, .tmp 3, .tmp 4, .tmp 5]) rfl (by simp) (.tmp (.tmp (.tmp (.tmp .nil))))) rfl ?_
     exact ⟨by first | rfl | (simp; done) | (simp [*]; done), by repeat (first | exact Drawn0.refl _ | apply Drawn0.step)⟩
    ·replace c5 := Bool.eq_false_iff.mpr c5
     subst c5
     have H1 : (if a0 < 224 then (some (2, wrap32 (Go.bits .and .u8 a0 31), 128, 191)) else (if a0 < 240 then (if a0 = 224 then (some (3, wrap32 (Go.bits .and .u8 a0 15), 160, 191)) else (if a0 = 237 then (some (3, wrap32 (Go.bits .and .u8 a0 15), 128, 159)) else (some (3, wrap32 (Go.bits .and .u8 a0 15), 128, 191)))) else (if a0 = 240 then (some (4, wrap32 (Go.bits .and .u8 a0 7), 144, 191)) else (if a0 = 244 then (some (4, wrap32 (Go.bits .and .u8 a0 7), 128, 143)) else (some (4, wrap32 (Go.bits .and .u8 a0 7), 128, 191)))))) = some (r1, r2, r3, r4) := by rw [if_neg (show ¬ (false = true) by decide)] at H; exact H
     clear H
     have H := H1
     clear H1
     by_cases c6 : a0 < 224
     ·rw [if_pos c6] at H
      have c6b0 : decide (a0 < 224) = true := decide_eq_true c6
      clear c6
      simp only [Option.some.injEq, Prod.mk.injEq] at H
      obtain ⟨rfl, rfl, rfl, rfl⟩ := H
      go_wp2
      refine bodyPost_ret (results_list (rs := [.tmp 2, .tmp 3, .tmp 4, .tmp 5]) rfl (by simp) (.tmp (.tmp (.tmp (.tmp .nil))))) rfl ?_
      exact ⟨by first | rfl | (simp; done) | (simp [*]; done), by repeat (first | exact Drawn0.refl _ | apply Drawn0.step)⟩
     ·rw [if_neg c6] at H
      have c6b0 : decide (a0 < 224) = false := decide_eq_false c6
      clear c6
      by_cases c7 : a0 < 240
      ·rw [if_pos c7] at H
       have c7b0 : decide (a0 < 240) = true := decide_eq_true c7
       clear c7
       by_cases c8 : a0 = 224
       ·rw [if_pos c8] at H
        have c8b0 : (a0 == 224) = true := beq_iff_eq.mpr c8
        have c8b1 : (a0 != 224) = false := bne_eq_false_iff_eq.mpr c8
        clear c8
        simp only [Option.some.injEq, Prod.mk.injEq] at H
        obtain ⟨rfl, rfl, rfl, rfl⟩ := H
        go_wp2
        refine bodyPost_ret (results_list (rs := [.tmp 2, .tmp 3, .tmp 4, .tmp 5]) rfl (by simp) (.tmp (.tmp (.tmp (.tmp .nil))))) rfl ?_
        exact ⟨by first | rfl | (simp; done) | (simp [*]; done), by repeat (first | exact Drawn0.refl _ | apply Drawn0.step)⟩
       ·rw [if_neg c8] at H
        have c8b0 : (a0 == 224) = false := beq_eq_false_iff_ne.mpr c8
        have c8b1 : (a0 != 224) = true := bne_iff_ne.mpr c8
        by_cases c9 : a0 = 237
        ·rw [if_pos c9] at H
         have c9b0 : (a0 == 237) = true := beq_iff_eq.mpr c9
         have c9b1 : (a0 != 237) = false := bne_eq_false_iff_eq.mpr c9
         clear c9
         simp only [Option.some.injEq, Prod.mk.injEq] at H
         obtain ⟨rfl, rfl, rfl, rfl⟩ := H
         go_wp2
         refine bodyPost_ret (results_list (rs := [.tmp 2, .tmp 3, .tmp 4, .tmp 5]) rfl (by simp) (.tmp (.tmp (.tmp (.tmp .nil))))) rfl ?_
         exact ⟨by first | rfl | (simp; done) | (simp [*]; done), by repeat (first | exact Drawn0.refl _ | apply Drawn0.step)⟩
        ·rw [if_neg c9] at H
         have c9b0 : (a0 == 237) = false := beq_eq_false_iff_ne.mpr c9
         have c9b1 : (a0 != 237) = true := bne_iff_ne.mpr c9
         simp only [Option.some.injEq, Prod.mk.injEq] at H
         obtain ⟨rfl, rfl, rfl, rfl⟩ := H
         go_wp2
         refine bodyPost_ret (results_list (rs := [.tmp 2, .tmp 3, .tmp 4, .tmp 5]) rfl (by simp) (.tmp (.tmp (.tmp (.tmp .nil))))) rfl ?_
         exact ⟨by first | rfl | (simp; done) | (simp [*]; done), by repeat (first | exact Drawn0.refl _ | apply Drawn0.step)⟩
      ·rw [if_neg c7] at H
       have c7b0 : decide (a0 < 240) = false := decide_eq_false c7
       clear c7
       by_cases c10 : a0 = 240
       ·rw [if_pos c10] at H
        have c10b0 : (a0 == 240) = true := beq_iff_eq.mpr c10
        have c10b1 : (a0 != 240) = false := bne_eq_false_iff_eq.mpr c10
        clear c10
        simp only [Option.some.injEq, Prod.mk.injEq] at H
        obtain ⟨rfl, rfl, rfl, rfl⟩ := H
        go_wp2
        refine bodyPost_ret (results_list (rs := [.tmp 2, .tmp 3, .tmp 4, .tmp 5]) rfl (by simp) (.tmp (.tmp (.tmp (.tmp .nil))))) rfl ?_
        exact ⟨by first | rfl | (simp; done) | (simp [*]; done), by repeat (first | exact Drawn0.refl _ | apply Drawn0.step)⟩
       ·rw [if_neg c10] at H
        have c10b0 : (a0 == 240) = false := beq_eq_false_iff_ne.mpr c10
        have c10b1 : (a0 != 240) = true := bne_iff_ne.mpr c10
        by_cases c11 : a0 = 244
        ·rw [if_pos c11] at H
         have c11b0 : (a0 == 244) = true := beq_iff_eq.mpr c11
         have c11b1 : (a0 != 244) = false := bne_eq_false_iff_eq.mpr c11
         clear c11
         simp only [Option.some.injEq, Prod.mk.injEq] at H
         obtain ⟨rfl, rfl, rfl, rfl⟩ := H
         go_wp2
         refine bodyPost_ret (results_list (rs := [.tmp 2, .tmp 3, .tmp 4, .tmp 5]) rfl (by simp) (.tmp (.tmp (.tmp (.tmp .nil))))) rfl ?_
         exact ⟨by first | rfl | (simp; done) | (simp [*]; done), by repeat (first | exact Drawn0.refl _ | apply Drawn0.step)⟩
        ·rw [if_neg c11] at H
         have c11b0 : (a0 == 244) = false := beq_eq_false_iff_ne.mpr c11
         have c11b1 : (a0 != 244) = true := bne_iff_ne.mpr c11
         simp only [Option.some.injEq, Prod.mk.injEq] at H
         obtain ⟨rfl, rfl, rfl, rfl⟩ := H
         go_wp2
         refine bodyPost_ret (results_list (rs := [.tmp 2, .tmp 3, .tmp 4, .tmp 5]) rfl (by simp) (.tmp (.tmp (.tmp (.tmp .nil))))) rfl ?_
         exact ⟨by first | rfl | (simp; done) | (simp [*]; done), by repeat (first | exact Drawn0.refl _ | apply Drawn0.step)⟩
end Go.Proofs.YtiggjbclbdikmaaDoor.X
namespace Go.Proofs.YtiggjbclbdikmaaDoor.X
open Go.RowKit Go.Proofs.YtiggjbclbdikmaaDoorW.PrintWords Go.Proofs.YtiggjbclbdikmaaDoorW.PrintLast Go.Proofs.YtiggjbclbdikmaaDoorW.PrintMore
attribute [local go_sem] max2_int min2_int max_two min_two max_three min_three max_four min_four   
set_option linter.unusedVariables false
set_option linter.unusedSimpArgs false
def utf_one.l0 : Nat → List Int → Int → Int → Int → Int → Int → Option (Int × Int × Bool)
 | 0, _, _, _, _, _, _ => none
 | k + 1, x0, x2, x5, x6, x7, x8 => if x8 < x5 then (if x8 = (x0.length : Int) then (some (65533, x8, true)) else (if 0 ≤ x8 then (if x8 < (x0.length : Int) then (if (rd x0 x8) < x6 then (some (65533, x8, false)) else (if (rd x0 x8) > x7 then (some (65533, x8, false)) else (utf_one.l0 k x0 (Go.bits .or .i32 (wrap32 (x2 * 64)) (wrap32 (Go.bits .and .u8 (rd x0 x8) 63))) x5 128 191 (wrap64 (x8 + 1))))) else (none)) else (none))) else (some (x2, x5, false))
def utf_one.f (k : Nat) (l0 : List Int) : Option (Int × Int × Bool) := if 0 < (l0.length : Int) then ((utf_lead.f k (rd l0 0)).bind fun bt470 => (if bt470.1 = 0 then (some (65533, 1, false)) else (utf_one.l0 k l0 bt470.2.1 bt470.1 bt470.2.2.1 bt470.2.2.2 1))) else (none)
theorem utf_one.mono_l : ∀ k, (∀ y0 y1 y2 y3 y4 y5, LeO (utf_one.l0 k y0 y1 y2 y3 y4 y5) (utf_one.l0 (k + 1) y0 y1 y2 y3 y4 y5))
 | 0 => fun _ _ _ _ _ _ r h => by simp [utf_one.l0] at h
 | k + 1 => by
  have ih0 := utf_one.mono_l k
  ·intro y0 y1 y2 y3 y4 y5
   unfold utf_one.l0
   repeat' first
   | (with_reducible exact ih0 _ _ _ _ _ _)
   | (with_reducible exact utf_lead.mono _ _)
   | (with_reducible exact LeO.refl _)
   | (with_reducible exact LeO.none _)
   | (with_reducible refine LeO.ite ?_ ?_)
   | (with_reducible refine LeO.bind ?_ (fun _ => ?_))
   | exact ih0 _ _ _ _ _ _
   | exact utf_lead.mono _ _
   | exact LeO.none _
   | refine LeO.ite ?_ ?_
   | refine LeO.bind ?_ (fun _ => ?_)
theorem utf_one.mono : ∀ a0 k, LeO (utf_one.f k a0) (utf_one.f (k + 1) a0) := by
 intro a0 k
 have ih0 := utf_one.mono_l k
 unfold utf_one.f
 repeat' first
   | (with_reducible exact ih0 _ _ _ _ _ _)
   | (with_reducible exact utf_lead.mono _ _)
   | (with_reducible exact LeO.refl _)
   | (with_reducible exact LeO.none _)
   | (with_reducible refine LeO.ite ?_ ?_)
   | (with_reducible refine LeO.bind ?_ (fun _ => ?_))
   | exact ih0 _ _ _ _ _ _
   | exact utf_lead.mono _ _
   | exact LeO.none _
   | refine LeO.ite ?_ ?_
   | refine LeO.bind ?_ (fun _ => ?_)
set_option maxHeartbeats 8000000 in
set_option maxRecDepth 100000 in
theorem utf_one.calls (k : Nat) (A0 : Option Addr) (c0 : Nat) (l0 : List Int) (r1 : Int) (r2 : Int) (r3 : Bool) (w : World) (hr0 : Kd.C (Kd.int .u8) w A0 l0.length l0) (hc0 : l0.length ≤ c0) (h : utf_one.f k l0 = some (r1, r2, r3)) :
  Calls Tryd.prog 88 #[.slice A0 l0.length c0] w fun e w' => e = .returned (.tuple #[.int .i32 r1, .int .i64 r2, .bool r3]) ∧ Drawn0 w w' := by
 have HR0 := Aside0.mk hr0
 have HC0 := Aside0.mk hc0
 clear hr0 hc0
 have H : (if 0 < (l0.length : Int) then ((utf_lead.f k (rd l0 0)).bind fun bt470 => (if bt470.1 = 0 then (some (65533, 1, false)) else (utf_one.l0 k l0 bt470.2.1 bt470.1 bt470.2.2.1 bt470.2.2.2 1))) else (none)) = some (r1, r2, r3) := h
 clear h
 by_cases c2 : 0 < (l0.length : Int)
 ·rw [if_pos c2] at H
  have c2b0 : decide (0 < (l0.length : Int)) = true := decide_eq_true c2
  have c2b1 : decide (0 < l0.length) = true := decide_eq_true (by omega)
  clear c2
  replace H := Option.bind_eq_some_iff.mp H
  obtain ⟨⟨t470, t471, t472, t473⟩, A30, H⟩ := H
  replace H : (if t470 = 0 then (some (65533, 1, false)) else (utf_one.l0 k l0 t471 t470 t472 t473 1)) = some (r1, r2, r3) := H
  have A3 := Aside0.mk A30
  clear A30
  by_cases c4 : t470 = 0
  ·rw [if_pos c4] at H
   have c4b0 : (t470 == 0) = true := beq_iff_eq.mpr c4
   have c4b1 : (t470 != 0) = false := bne_eq_false_iff_eq.mpr c4
   clear c4
   simp only [Option.some.injEq, Prod.mk.injEq] at H
   obtain ⟨rfl, rfl, rfl⟩ := H
   have p469 : 0 ≤ (0 : Int) := (by omega)
   have q469 : 0 < (l0.length : Int) := of_decide_eq_true (by first | (with_reducible assumption) | assumption)
   obtain ⟨ad469, e469, hx469_0⟩ := Kd.at_int HR0.out 0 p469 q469
   cases e469
   have qi469 : (0 < l0.length) = True := eq_true (by omega)
   (try rw [show ((0 : Int)).toNat = 0 from rfl] at hx469_0)
   (try rw [Addr.add_zero'] at hx469_0)
   replace p469 := eq_true p469
   replace q469 := eq_true q469
   go_enter Tryd.func88, Tryd.ntmps88
   go_wp2_with (first | ((with_reducible refine gate_callee (f := 95) rfl ?_); refine goesL_ (some 13) rfl rfl Tryd.func95 (by kernel_rfl) rfl #[.int .u8 (rd l0 0)] rfl (by (try simp only [List.map_toArray, List.map_cons, List.map_nil]); first | done | rfl | (simp only [List.length_drop, List.length_take]; rfl)) ?_; (with_reducible refine (utf_lead.calls k (rd l0 0) t470 t471 t472 t473 _ A3.out).mono ?_); rintro e w' ⟨rfl, ⟨nd, rfl⟩⟩; refine ⟨_, rfl, ?_⟩))
   go_ret3
   exact ⟨by first | rfl | (simp; done) | (simp [*]; done), by repeat (first | exact Drawn0.refl _ | apply Drawn0.step)⟩
  ·rw [if_neg c4] at H
   have c4b0 : (t470 == 0) = false := beq_eq_false_iff_ne.mpr c4
   have c4b1 : (t470 != 0) = true := bne_iff_ne.mpr c4
   have H' := Aside0.mk H
   clear H
   have p469 : 0 ≤ (0 : Int) := (by omega)
   have q469 : 0 < (l0.length : Int) := of_decide_eq_true (by first | (with_reducible assumption) | assumption)
   obtain ⟨ad469, e469, hx469_0⟩ := Kd.at_int HR0.out 0 p469 q469
   cases e469
   have qi469 : (0 < l0.length) = True := eq_true (by omega)
   (try rw [show ((0 : Int)).toNat = 0 from rfl] at hx469_0)
   (try rw [Addr.add_zero'] at hx469_0)
   replace p469 := eq_true p469
   replace q469 := eq_true q469
   go_enter Tryd.func88, Tryd.ntmps88
   go_wp2_with (first | ((with_reducible refine gate_callee (f := 95) rfl ?_); refine goesL_ (some 13) rfl rfl Tryd.func95 (by kernel_rfl) rfl #[.int .u8 (rd l0 0)] rfl (by (try simp only [List.map_toArray, List.map_cons, List.map_nil]); first | done | rfl | (simp only [List.length_drop, List.length_take]; rfl)) ?_; (with_reducible refine (utf_lead.calls k (rd l0 0) t470 t471 t472 t473 _ A3.out).mono ?_); rintro e w' ⟨rfl, ⟨nd, rfl⟩⟩; refine ⟨_, rfl, ?_⟩))
   go_loopg [2, 6, 7, 8] k (fun kq v2 v6 v7 v8 w' => ∃ (x2_1 : Int) (x6_1 : Int) (x7_1 : Int) (x8_1 : Int), v2 = .int .i32 x2_1 ∧ v6 = .int .u8 x6_1 ∧ v7 = .int .u8 x7_1 ∧ v8 = .int .i64 x8_1 ∧ Aside0 (utf_one.l0 kq l0 x2_1 t470 x6_1 x7_1 x8_1 = some (r1, r2, r3)) ∧ Aside0 (kq ≤ k) ∧ Drawn0 w w')
   case atStart => exact ⟨(t471), (t472), (t473), (1), (by first | rfl | (simp; done) | (simp [*]; done)), (by first | rfl | (simp; done) | (simp [*]; done)), (by first | rfl | (simp; done) | (simp [*]; done)), (by first | rfl | (simp; done) | (simp [*]; done)), H', ⟨Nat.le_refl _⟩, by repeat (first | exact Drawn0.refl _ | apply Drawn0.step)⟩
   case round =>
    clear H'
    try clear c2
    try clear c2b0
    try clear c2b1
    try clear p2
    try clear c4
    try clear c4b0
    try clear c4b1
    try clear p4
    try clear q4
    try clear hx4
    try clear qi4
    try clear hx469_0
    try clear p469
    try clear q469
    obtain ⟨x2_1, x6_1, x7_1, x8_1, rfl, rfl, rfl, rfl, HA, HK1, ⟨m1, rfl⟩⟩ := hrel
    cases gk with
    | zero => exact absurd HA.out (by simp [utf_one.l0])
    | succ k1 =>
     have H := HA.out
     clear HA
     simp only [utf_one.l0] at H
     by_cases c5 : x8_1 < t470
     ·rw [if_pos c5] at H
      have c5b0 : decide (x8_1 < t470) = true := decide_eq_true c5
      clear c5
      by_cases c6 : x8_1 = (l0.length : Int)
      ·rw [if_pos c6] at H
       have c6b0 : (x8_1 == (l0.length : Int)) = true := beq_iff_eq.mpr c6
       have c6b1 : (x8_1 != (l0.length : Int)) = false := bne_eq_false_iff_eq.mpr c6
       clear c6
       simp only [Option.some.injEq, Prod.mk.injEq] at H
       obtain ⟨rfl, rfl, rfl⟩ := H
       go_wp2
       go_ret3
       exact ⟨by first | rfl | (simp; done) | (simp [*]; done), by repeat (first | exact Drawn0.refl _ | apply Drawn0.step)⟩
      ·rw [if_neg c6] at H
       have c6b0 : (x8_1 == (l0.length : Int)) = false := beq_eq_false_iff_ne.mpr c6
       have c6b1 : (x8_1 != (l0.length : Int)) = true := bne_iff_ne.mpr c6
       by_cases c7 : 0 ≤ x8_1
       ·rw [if_pos c7] at H
        have c7b0 : decide (0 ≤ x8_1) = true := decide_eq_true c7
        clear c7
        by_cases c8 : x8_1 < (l0.length : Int)
        ·rw [if_pos c8] at H
         have c8b0 : decide (x8_1 < (l0.length : Int)) = true := decide_eq_true c8
         clear c8
         by_cases c9 : (rd l0 x8_1) < x6_1
         ·rw [if_pos c9] at H
          have c9b0 : decide ((rd l0 x8_1) < x6_1) = true := decide_eq_true c9
          clear c9
          simp only [Option.some.injEq, Prod.mk.injEq] at H
          obtain ⟨rfl, rfl, rfl⟩ := H
          have p474 : 0 ≤ (x8_1 : Int) := of_decide_eq_true (by first | (with_reducible assumption) | assumption)
          have q474 : x8_1 < (l0.length : Int) := of_decide_eq_true (by first | (with_reducible assumption) | assumption)
          obtain ⟨ad474, e474, hx474_0⟩ := Kd.at_int HR0.out x8_1 p474 q474
          obtain rfl : ad469 = ad474 := (by injection e474)
          replace p474 := eq_true p474
          replace q474 := eq_true q474
          go_wp2
          go_ret3
          exact ⟨by first | rfl | (simp; done) | (simp [*]; done), by repeat (first | exact Drawn0.refl _ | apply Drawn0.step)⟩
         ·rw [if_neg c9] at H
          have c9b0 : decide ((rd l0 x8_1) < x6_1) = false := decide_eq_false c9
          clear c9
          by_cases c10 : (rd l0 x8_1) > x7_1
          ·rw [if_pos c10] at H
           have c10b0 : decide (x7_1 < (rd l0 x8_1)) = true := decide_eq_true c10
           clear c10
           simp only [Option.some.injEq, Prod.mk.injEq] at H
           obtain ⟨rfl, rfl, rfl⟩ := H
           have p474 : 0 ≤ (x8_1 : Int) := of_decide_eq_true (by first | (with_reducible assumption) | assumption)
           have q474 : x8_1 < (l0.length : Int) := of_decide_eq_true (by first | (with_reducible assumption) | assumption)
           obtain ⟨ad474, e474, hx474_0⟩ := Kd.at_int HR0.out x8_1 p474 q474
           obtain rfl : ad469 = ad474 := (by injection e474)
           replace p474 := eq_true p474
           replace q474 := eq_true q474
           have p475 : 0 ≤ (x8_1 : Int) := of_decide_eq_true (by first | (with_reducible assumption) | assumption)
           have q475 : x8_1 < (l0.length : Int) := of_decide_eq_true (by first | (with_reducible assumption) | assumption)
           obtain ⟨ad475, e475, hx475_0⟩ := Kd.at_int HR0.out x8_1 p475 q475
           obtain rfl : ad469 = ad475 := (by injection e475)
           replace p475 := eq_true p475
           replace q475 := eq_true q475
           go_wp2
           go_ret3
           exact ⟨by first | rfl | (simp; done) | (simp [*]; done), by repeat (first | exact Drawn0.refl _ | apply Drawn0.step)⟩
          ·rw [if_neg c10] at H
           have c10b0 : decide (x7_1 < (rd l0 x8_1)) = false := decide_eq_false c10
           clear c10
           have H' := Aside0.mk H
           clear H
           have p474 : 0 ≤ (x8_1 : Int) := of_decide_eq_true (by first | (with_reducible assumption) | assumption)
           have q474 : x8_1 < (l0.length : Int) := of_decide_eq_true (by first | (with_reducible assumption) | assumption)
           obtain ⟨ad474, e474, hx474_0⟩ := Kd.at_int HR0.out x8_1 p474 q474
           obtain rfl : ad469 = ad474 := (by injection e474)
           replace p474 := eq_true p474
           replace q474 := eq_true q474
           have p475 : 0 ≤ (x8_1 : Int) := of_decide_eq_true (by first | (with_reducible assumption) | assumption)
           have q475 : x8_1 < (l0.length : Int) := of_decide_eq_true (by first | (with_reducible assumption) | assumption)
           obtain ⟨ad475, e475, hx475_0⟩ := Kd.at_int HR0.out x8_1 p475 q475
           obtain rfl : ad469 = ad475 := (by injection e475)
           replace p475 := eq_true p475
           replace q475 := eq_true q475
           have p476 : 0 ≤ (x8_1 : Int) := of_decide_eq_true (by first | (with_reducible assumption) | assumption)
           have q476 : x8_1 < (l0.length : Int) := of_decide_eq_true (by first | (with_reducible assumption) | assumption)
           obtain ⟨ad476, e476, hx476_0⟩ := Kd.at_int HR0.out x8_1 p476 q476
           obtain rfl : ad469 = ad476 := (by injection e476)
           replace p476 := eq_true p476
           replace q476 := eq_true q476
           go_wp2
           go_roundg k1
           case measure => have := HK1.out; omega
           case rel => exact ⟨(Go.bits .or .i32 (wrap32 (x2_1 * 64)) (wrap32 (Go.bits .and .u8 (rd l0 x8_1) 63))), (128), (191), (wrap64 (x8_1 + 1)), (by first | rfl | (simp; done) | (simp [*]; done)), (by first | rfl | (simp; done) | (simp [*]; done)), (by first | rfl | (simp; done) | (simp [*]; done)), (by first | rfl | (simp; done) | (simp [*]; done)), H', ⟨by have := HK1.out; omega⟩, by repeat (first | exact Drawn0.refl _ | apply Drawn0.step)⟩
        ·rw [if_neg c8] at H
         exact absurd H (by simp)
       ·rw [if_neg c7] at H
        exact absurd H (by simp)
     ·rw [if_neg c5] at H
      have c5b0 : decide (x8_1 < t470) = false := decide_eq_false c5
      clear c5
      simp only [Option.some.injEq, Prod.mk.injEq] at H
      obtain ⟨rfl, rfl, rfl⟩ := H
      go_wp2
      go_ret3
      exact ⟨by first | rfl | (simp; done) | (simp [*]; done), by repeat (first | exact Drawn0.refl _ | apply Drawn0.step)⟩
 ·rw [if_neg c2] at H
  exact absurd H (by simp)
end Go.Proofs.YtiggjbclbdikmaaDoor.X
