/-
  Several texts of this claim in one: what its law's proof uses.
-/
import Derived.Test.YtdambnclbpipdaaGreatDoorMMR1
import Derived.IntWalk
import Derived.Laws.RangeString
import Derived.Deep.RegionHeld3
import Derived.Test.YtdambnclbpipdaaGreatDoorMMR0
import Derived.WalkSpells
import Derived.WalkLawsBesides
namespace Go.Proofs.YtdambnclbpipdaaGreatDoor.Nd
set_option linter.unusedVariables false
set_option linter.unusedSimpArgs false
open Go.RowKit Go.Proofs.YtdambnclbpipdaaGreatDoorW.PrintWords Go.Proofs.YtdambnclbpipdaaGreatDoor.Hp Go.Proofs.YtdambnclbpipdaaGreatDoor.Va Go.Proofs.YtdambnclbpipdaaGreatDoor.Na Go.Proofs.YtdambnclbpipdaaGreatDoor.Nb Go.Proofs.YtdambnclbpipdaaGreatDoor.Nc
def cmpv (a b : Int) : Int := if a < b then -1 else if b < a then 1 else 0
theorem cmpv_neg (a b : Int) : decide (cmpv a b < 0) = decide (a < b) := by
  rw [decide_eq_decide]
  unfold cmpv
  split
  · simp; assumption
  · split <;> simp <;> omega
theorem cmp_pure (a b : Int) : X.cmp_Compare_int.f a b = some (cmpv a b) := by
  unfold X.cmp_Compare_int.f X.cmp_isNaN_int.f cmpv
  simp
  split
  · rfl
  · split <;> rfl
def fv : Value := .func (.func 178) #[] #[]
set_option maxRecDepth 100000 in
set_option maxHeartbeats 1000000 in
theorem CmpP (w : World) (hG : G w) (a b : Int) : Calls Tryz.prog 178 #[.int .i32 a, .int .i32 b] w fun e w' => e = .returned (.int .i64 (cmpv (cls a) (cls b))) ∧ Below w.heap.size w w' := by
  have HG := Aside0.mk hG
  clear hG
  go_enter Tryz.func178, Tryz.ntmps178
  go_wp2_with (first | (go_at_call 170; (with_reducible refine (ClassP w HG.out a).mono ?_); rintro e w1 ⟨rfl, p1⟩; have B1 := Aside0.mk p1; clear p1) | (go_at_call 170; (with_reducible refine (ClassP w1 (HG.out.below B1.out) b).mono ?_); rintro e w2 ⟨rfl, p2⟩; have B2 := Aside0.mk (below_then B1.out B1.out.size p2); clear p2) | (go_at_call 179; go_must (refine (X.cmp_Compare_int.calls (cls a) (cls b) _ w2 (cmp_pure _ _)).mono ?_; rintro e w3 ⟨rfl, p3⟩; have B3 := Aside0.mk (below_then B2.out B2.out.size p3.below); clear p3)))
  go_ret
  exact ⟨rfl, B3.out⟩
def InsPost (w : World) (g : Nat) (pre post : List Value) (A seg C : List Int) (e : Ending) (w' : World) : Prop :=
  e = .returned (.tuple #[]) ∧ Chg (fun b => b = g) w w' ∧ ∃ S, Reg w' g pre post (A ++ S ++ C) ∧ Srt S ∧ Sw seg S
set_option maxRecDepth 100000 in
set_option maxHeartbeats 2000000 in
theorem InsP (w : World) (hG : G w) (g : Nat) (hg : 3 ≤ g) (pre post : List Value) (A seg C : List Int) (c : Nat) (hR : Reg w g pre post (A ++ seg ++ C)) (n : Nat) (hn : n = (A ++ seg ++ C).length) (hn5 : n ≤ 1000000000000000) (off : Nat) (hoff : off = pre.length) (a b : Nat) (ha : a = A.length) (hb : b = A.length + seg.length) :
    Calls Tryz.prog 194 #[.slice (some ⟨g, off, none⟩) n c, .int .i64 (a : Int), .int .i64 (b : Int), .func (.func 178) #[] #[]] w (InsPost w g pre post A seg C) := by
  have HG := Aside0.mk hG
  have HR := Aside0.mk hR
  have HN := Aside0.mk hn
  have HF := Aside0.mk hoff
  have HA := Aside0.mk ha
  have HB := Aside0.mk hb
  have hbn : b ≤ n := by rw [hb, hn]; simp
  have hab : a ≤ b := by omega
  clear hG hR hn hoff ha hb
  go_enter Tryz.func194, Tryz.ntmps194
  go_wp2
  go_loopw [8] (fun iv wr => ∃ (i : Nat) (D rest S : List Int), iv = .int .i64 i ∧ i ≤ b + 1 ∧ Aside0 (D ++ rest = seg) ∧ Aside0 (i = a + D.length ∨ (seg = [] ∧ i = a + 1)) ∧ Aside0 (Srt S ∧ Sw D S) ∧ Aside0 (Reg wr g pre post (A ++ S ++ rest ++ C)) ∧ Aside0 (Chg (fun b => b = g) w wr)) (fun iv _ => b + 1 - (intOf iv).toNat)
  case atStart =>
    cases seg with
    | nil => exact ⟨a + 1, [], [], [], by go_num, by omega, ⟨rfl⟩, ⟨.inr ⟨rfl, rfl⟩⟩, ⟨⟨List.Pairwise.nil, Sw.refl _⟩⟩, ⟨by have := HR.out; simpa using this⟩, ⟨Chg.refl _ _⟩⟩
    | cons x t => exact ⟨a + 1, [x], t, [x], by go_num, by omega, ⟨rfl⟩, ⟨.inl rfl⟩, ⟨⟨List.pairwise_singleton .., Sw.refl _⟩⟩, ⟨by have := HR.out; simpa using this⟩, ⟨Chg.refl _ _⟩⟩
  case round =>
    obtain ⟨i, D, rest, S, rfl, hi, HD, HI, HS, HRr, HC⟩ := hrel
    by_cases hlt : i < b
    · have hd : decide ((i : Int) < (b : Int)) = true := decide_eq_true (by omega)
      obtain ⟨x, rest', hx⟩ : ∃ x r, rest = x :: r := by
        cases rest with
        | nil =>
          have h1 := HD.out; have h2 := HI.out; have h3 := HB.out; have h4 := HA.out
          rw [List.append_nil] at h1
          subst h1
          rcases h2 with h2 | ⟨h2, h5⟩
          · omega
          · rw [h2] at h3; simp at h3; omega
        | cons x r => exact ⟨x, r, rfl⟩
      subst hx
      have HI1 : Aside0 (i = a + D.length) := ⟨by rcases HI.out with h | ⟨h, _⟩; exact h; exact absurd HD.out (by rw [h]; simp)⟩
      have HL : Aside0 (S.length = D.length) := ⟨HS.out.2.length.symm⟩
      clear HI
      go_wp2
      go_loopw [9] (fun jv w2 => ∃ (j : Nat) (L R : List Int), jv = .int .i64 j ∧ j ≤ i ∧ Aside0 (j = a + L.length) ∧ Aside0 (WayL S L x R) ∧ Aside0 (Reg w2 g pre post (A ++ (L ++ x :: R) ++ rest' ++ C)) ∧ Aside0 (Chg (fun b => b = g) w w2)) (fun jv _ => (intOf jv).toNat)
      case atStart => exact ⟨i, S, [], rfl, Nat.le_refl _, ⟨by rw [HI1.out, HL.out]⟩, ⟨WayL.start S x⟩, ⟨by have := HRr.out; simpa using this⟩, HC⟩
      case round =>
        obtain ⟨j, L, R, rfl, hji, HJ, HWy, HR2, HC2⟩ := hrel
        clear HRr HC
        rcases List.eq_nil_or_concat L with hL | ⟨L', y, hL⟩
        · have hjn : ¬ a < j := by have := HJ.out; rw [hL] at this; simp at this; omega
          have hja : decide ((a : Int) < (j : Int)) = false := decide_eq_false (by omega)
          have hja2 : decide (a < j) = false := decide_eq_false hjn
          subst hL
          have HS3 := Aside0.mk (HWy.out.stop HS.out.1 (by simp))
          have HD3 := Aside0.mk (HD.out)
          go_wp2
          go_quiet (fail)
          go_wp2
          go_roundw
          case rel => exact ⟨i + 1, D ++ [x], rest', [] ++ x :: R, by go_num, by omega, ⟨by rw [← HD.out]; simp⟩, ⟨.inl (by have := HI1.out; simp; omega)⟩, ⟨HS3.out.1, (HS.out.2.append (Sw.refl [x])).trans HS3.out.2⟩, ⟨by have := HR2.out.drewN nq; simpa using this⟩, ⟨HC2.out.drewN nq⟩⟩
          case measure => simp [intOf]; omega
        · rw [List.concat_eq_append] at hL
          subst hL
          obtain ⟨jp, rfl⟩ : ∃ q, j = q + 1 := ⟨j - 1, by have := HJ.out; simp at this; omega⟩
          have hja : decide ((a : Int) < (jp : Int) + 1) = true := decide_eq_true (by have := HJ.out; simp at this; omega)
          have hP : (A ++ (L' ++ [y] ++ x :: R) ++ rest' ++ C) = (A ++ L') ++ y :: ([] ++ x :: (R ++ rest' ++ C)) := by simp
          have hR2 := HR2.out
          rw [hP] at hR2
          have hpl : jp = (A ++ L').length := by have h1 := HJ.out; have h2 := HA.out; simp at h1 ⊢; omega
          obtain ⟨c2, c1, -, -⟩ := hR2.two HF.out hpl (q := jp + 1) (by rw [hpl]; rfl)
          have HR3 := Aside0.mk hR2
          have HPL := Aside0.mk hpl
          have hjn : (jp : Int) + 1 < (n : Int) := by omega
          have hj1 : ((jp : Int) + 1).toNat = jp + 1 := by omega
          have hj2 : (0 : Int) ≤ (jp : Int) + 1 := by omega
          have hj3 : IntKind.i64.wrap ((jp : Int)) = (jp : Int) := IntWalk.i64_in _ (by omega)
          have hj4 : (jp : Int) < (n : Int) := by omega
          have hj5 : (0 : Int) ≤ (jp : Int) := by omega
          clear hP hpl hR2
          have l1 : ∀ p : Aft wr, p.w'.cell? ⟨g, off + (jp + 1), none⟩ = some (.int .i32 x) := fun p => p.cell c1
          have l2 : ∀ p : Aft wr, p.w'.cell? ⟨g, off + jp, none⟩ = some (.int .i32 y) := fun p => p.cell c2
          have hG2 : ∀ p : Aft wr, G p.w' := fun p => (G_chg HG.out HC2.out (fun k hk e => by omega)).below p.hb
          have HG2 := Aside0.mk hG2
          clear hG2 c1 c2
          by_cases hxy : cls x < cls y
          · have hc : decide (cmpv (cls x) (cls y) < 0) = true := by rw [cmpv_neg]; exact decide_eq_true hxy
            go_wp2
            refine wp_region_aft (by kernel_rfl) (by kernel_rfl) ?_
            repeat (quiet_step (first | (go_at_call 178; exact aft_of (CmpP _ (HG2.out _) x y))))
            refine wpQuiet_nil ?_
            rintro w3 ⟨⟨_, hb3⟩, rfl⟩
            have hR4 := HR3.out.below hb3
            have HR4 := Aside0.mk hR4
            have hC4 := Aside0.mk (HC2.out.then_below hb3)
            obtain ⟨c2, c1, -, hSw⟩ := hR4.two HF.out HPL.out (q := jp + 1) (by rw [HPL.out]; rfl)
            have f1 := hR4.free (off + (jp + 1))
            have f2 := hR4.free (off + jp)
            obtain ⟨u, c3⟩ : ∃ u, (w3.setCell ⟨g, off + (jp + 1), none⟩ (.int .i32 y)).cell? ⟨g, off + jp, none⟩ = some u := cell?_setCell_some c2
            have HSw := Aside0.mk hSw
            clear l1 l2 hc hR4 hSw hb3 HG2
            go_wp2
            go_big_region
            have HR5 := Aside0.mk (HSw.out.drew)
            have HC5 := Aside0.mk (((hC4.out.setCell (p := ⟨g, off + (jp + 1), none⟩) (.inl rfl) (.int .i32 y)).setCell (p := ⟨g, off + jp, none⟩) (.inl rfl) (.int .i32 x)).drew)
            clear HSw hC4 c1 c2 c3 f1 f2
            generalize ((w3.setCell ⟨g, off + (jp + 1), none⟩ (.int .i32 y)).setCell ⟨g, off + jp, none⟩ (.int .i32 x)).drew = w4 at HR5 HC5 ⊢
            go_wp2
            go_roundw
            case rel => exact ⟨jp, L', y :: R, by go_num, by omega, ⟨by have h1 := HJ.out; simp only [List.length_append, List.length_cons, List.length_nil] at h1; omega⟩, ⟨HWy.out.step hxy⟩, ⟨by have := HR5.out; simpa using this⟩, HC5⟩
            case measure => simp [intOf]
          · have hc : decide (cmpv (cls x) (cls y) < 0) = false := by rw [cmpv_neg]; exact decide_eq_false hxy
            have HS3 := Aside0.mk (HWy.out.stop HS.out.1 (last_le (srt_left (HWy.out.all ▸ HS.out.1)) (by omega)))
            go_wp2
            refine wp_region_aft (by kernel_rfl) (by kernel_rfl) ?_
            repeat (quiet_step (first | (go_at_call 178; exact aft_of (CmpP _ (HG2.out _) x y))))
            refine wpQuiet_nil ?_
            rintro w3 ⟨⟨_, hb3⟩, rfl⟩
            have HR4 := Aside0.mk (HR3.out.below hb3)
            have HC4 := Aside0.mk (HC2.out.then_below hb3)
            clear l1 l2 hc hb3 HG2 hj1 hj2 hj3 hj4 hj5
            go_wp2
            go_roundw
            case rel => exact ⟨i + 1, D ++ [x], rest', (L' ++ [y]) ++ x :: R, by go_num, by omega, ⟨by rw [← HD.out]; simp⟩, ⟨.inl (by have := HI1.out; simp; omega)⟩, ⟨HS3.out.1, (HS.out.2.append (Sw.refl [x])).trans HS3.out.2⟩, ⟨by have := HR4.out; simpa using this⟩, HC4⟩
            case measure => simp [intOf]; omega
    · have hd : decide ((i : Int) < (b : Int)) = false := decide_eq_false (by omega)
      have hrest : rest = [] := by
        have h1 := congrArg List.length HD.out
        have h2 := HB.out
        have h3 := HA.out
        rcases HI.out with h | ⟨h, h4⟩
        · simp at h1
          exact List.eq_nil_of_length_eq_zero (by omega)
        · rw [h] at h1; simp at h1; exact h1.2
      subst hrest
      have HDD : Aside0 (D = seg) := ⟨by have := HD.out; rwa [List.append_nil] at this⟩
      go_wp2
      go_end0
      exact ⟨rfl, HC.out, S, by have := HRr.out; rwa [List.append_nil] at this, HS.out.1, HDD.out ▸ HS.out.2⟩
end Go.Proofs.YtdambnclbpipdaaGreatDoor.Nd
namespace Go.Proofs.YtdambnclbpipdaaGreatDoor.Nr
set_option linter.unusedVariables false
set_option linter.unusedSimpArgs false
open Go.RowKit Go.Proofs.YtdambnclbpipdaaGreatDoorW.PrintWords Go.Proofs.YtdambnclbpipdaaGreatDoor.Hp Go.Proofs.YtdambnclbpipdaaGreatDoor.Va Go.Proofs.YtdambnclbpipdaaGreatDoor.Na Go.Proofs.YtdambnclbpipdaaGreatDoor.Nb Go.Proofs.YtdambnclbpipdaaGreatDoor.Nc Go.Proofs.YtdambnclbpipdaaGreatDoor.Nd
def TurnPost (w : World) (g : Nat) (pre post : List Value) (T : List Int) (e : Ending) (w' : World) : Prop :=
  e = .returned (.tuple #[]) ∧ Chg (fun b => b = g) w w' ∧ Reg w' g pre post T
set_option maxRecDepth 100000 in
set_option maxHeartbeats 2000000 in
theorem SwpP (w : World) (g : Nat) (pre post : List Value) (A U M V B : List Int) (c : Nat) (hR : Reg w g pre post (A ++ U ++ M ++ V ++ B)) (n : Nat) (hn : n = (A ++ U ++ M ++ V ++ B).length) (hn5 : n ≤ 1000000000000000) (off : Nat) (hoff : off = pre.length) (a b k : Nat) (ha : a = A.length) (hb : b = A.length + U.length + M.length) (hk : k = U.length) (hk2 : k = V.length) :
    Calls Tryz.prog 197 #[.slice (some ⟨g, off, none⟩) n c, .int .i64 (a : Int), .int .i64 (b : Int), .int .i64 (k : Int), .func (.func 178) #[] #[]] w (TurnPost w g pre post (A ++ V ++ M ++ U ++ B)) := by
  have HR := Aside0.mk hR
  have HF := Aside0.mk hoff
  have HA := Aside0.mk ha
  have HB := Aside0.mk hb
  have HK := Aside0.mk hk
  have HK2 := Aside0.mk hk2
  have hbn : b + k ≤ n := by rw [hb, hn, hk2]; simp; omega
  have han : a + k ≤ n := by omega
  clear hR hn hoff ha hb hk hk2
  go_enter Tryz.func197, Tryz.ntmps197
  go_wp2
  go_loopw [10] (fun iv wr => ∃ i : Nat, iv = .int .i64 i ∧ i ≤ k ∧ Aside0 (Reg wr g pre post (A ++ V.take i ++ U.drop i ++ M ++ U.take i ++ V.drop i ++ B)) ∧ Aside0 (Chg (fun b => b = g) w wr)) (fun iv _ => k - (intOf iv).toNat)
  case atStart => exact ⟨0, rfl, Nat.zero_le _, ⟨by have := HR.out; simpa using this⟩, ⟨Chg.refl _ _⟩⟩
  case round =>
    obtain ⟨i, rfl, hi, HRr, HC⟩ := hrel
    by_cases hlt : i < k
    · have hd : decide ((i : Int) < (k : Int)) = true := decide_eq_true (by omega)
      obtain ⟨u, hu⟩ : ∃ u, U.drop i = u :: U.drop (i + 1) ∧ U.take (i + 1) = U.take i ++ [u] := ⟨U[i]'(by have := HK.out; omega), by rw [List.drop_eq_getElem_cons], by rw [List.take_succ_eq_append_getElem]⟩
      obtain ⟨v, hv⟩ : ∃ v, V.drop i = v :: V.drop (i + 1) ∧ V.take (i + 1) = V.take i ++ [v] := ⟨V[i]'(by have := HK2.out; omega), by rw [List.drop_eq_getElem_cons], by rw [List.take_succ_eq_append_getElem]⟩
      have hr := HRr.out
      rw [hu.1, hv.1, show A ++ V.take i ++ (u :: U.drop (i + 1)) ++ M ++ U.take i ++ (v :: V.drop (i + 1)) ++ B = (A ++ V.take i) ++ u :: ((U.drop (i + 1) ++ M ++ U.take i) ++ v :: (V.drop (i + 1) ++ B)) by simp] at hr
      obtain ⟨c1, c2, hSw, -⟩ := hr.two HF.out (p := a + i) (q := b + i) (by have := HA.out; have := HK2.out; simp; omega) (by have := HB.out; have := HK.out; have := HK2.out; simp; omega)
      have f1 := hr.free (off + (a + i))
      have f2 := hr.free (off + (b + i))
      obtain ⟨z, c3⟩ : ∃ z, (wr.setCell ⟨g, off + (a + i), none⟩ (.int .i32 v)).cell? ⟨g, off + (b + i), none⟩ = some z := by
        by_cases e : (⟨g, off + (a + i), none⟩ : Addr) = ⟨g, off + (b + i), none⟩
        · rw [← e]; exact ⟨_, World.cell?_setCell_same wr _ _ c1⟩
        · exact ⟨_, (World.cell?_setCell_other wr _ _ _ e).trans c2⟩
      have hj1 : ((a : Int) + (i : Int)).toNat = a + i := by omega
      have hj2 : (0 : Int) ≤ (a : Int) + (i : Int) := by omega
      have hj3 : (a : Int) + (i : Int) < (n : Int) := by omega
      have hj4 : IntKind.i64.wrap ((a : Int) + (i : Int)) = (a : Int) + (i : Int) := IntWalk.i64_in _ (by omega)
      have hk1 : ((b : Int) + (i : Int)).toNat = b + i := by omega
      have hk2 : (0 : Int) ≤ (b : Int) + (i : Int) := by omega
      have hk3 : (b : Int) + (i : Int) < (n : Int) := by omega
      have hk4 : IntKind.i64.wrap ((b : Int) + (i : Int)) = (b : Int) + (i : Int) := IntWalk.i64_in _ (by omega)
      have HSw := Aside0.mk hSw
      have HU := Aside0.mk hu
      have HV := Aside0.mk hv
      clear hSw hu hv hr
      go_wp2
      go_big_region
      have HR5 := Aside0.mk (HSw.out.drew)
      have HC5 := Aside0.mk (((HC.out.setCell (p := ⟨g, off + (a + i), none⟩) (.inl rfl) (.int .i32 v)).setCell (p := ⟨g, off + (b + i), none⟩) (.inl rfl) (.int .i32 u)).drew)
      clear HSw HC c1 c2 c3 f1 f2 hj1 hj2 hj3 hj4 hk1 hk2 hk3 hk4
      generalize ((wr.setCell ⟨g, off + (a + i), none⟩ (.int .i32 v)).setCell ⟨g, off + (b + i), none⟩ (.int .i32 u)).drew = w4 at HR5 HC5 ⊢
      go_wp2
      go_roundw
      case rel => exact ⟨i + 1, by go_num, by omega, ⟨by rw [HU.out.2, HV.out.2]; have := HR5.out; simpa using this⟩, HC5⟩
      case measure => simp [intOf] <;> omega
    · have hd : decide ((i : Int) < (k : Int)) = false := decide_eq_false (by omega)
      obtain rfl : i = k := by omega
      have hr := HRr.out
      rw [List.take_of_length_le (by have := HK2.out; omega), List.drop_of_length_le (by have := HK.out; omega), List.take_of_length_le (by have := HK.out; omega), List.drop_of_length_le (by have := HK2.out; omega)] at hr
      have HR5 := Aside0.mk (show Reg wr g pre post (A ++ V ++ M ++ U ++ B) by simpa using hr)
      clear hr
      go_wp2
      go_end0
      exact ⟨rfl, HC.out, HR5.out⟩
set_option maxRecDepth 100000 in
set_option maxHeartbeats 2000000 in
theorem RotP (w : World) (g : Nat) (pre post : List Value) (A U V B : List Int) (c : Nat) (hR : Reg w g pre post (A ++ U ++ V ++ B)) (hU : 0 < U.length) (hV : 0 < V.length) (n : Nat) (hn : n = (A ++ U ++ V ++ B).length) (hn5 : n ≤ 1000000000000000) (off : Nat) (hoff : off = pre.length) (a m b : Nat) (ha : a = A.length) (hm : m = A.length + U.length) (hb : b = A.length + U.length + V.length) :
    Calls Tryz.prog 196 #[.slice (some ⟨g, off, none⟩) n c, .int .i64 (a : Int), .int .i64 (m : Int), .int .i64 (b : Int), .func (.func 178) #[] #[]] w (TurnPost w g pre post (A ++ V ++ U ++ B)) := by
  have HR := Aside0.mk hR
  have HF := Aside0.mk hoff
  have HA := Aside0.mk ha
  have HM := Aside0.mk hm
  have HB := Aside0.mk hb
  have HN := Aside0.mk hn
  have HUV := Aside0.mk (And.intro hU hV)
  have hmn : m ≤ n := by rw [hm, hn]; simp <;> omega
  have hbn : b ≤ n := by rw [hb, hn]; simp <;> omega
  have ham : a ≤ m := by omega
  have hmb : m ≤ b := by omega
  have e1 : (m : Int) - (a : Int) = ((m - a : Nat) : Int) := by omega
  have e2 : (b : Int) - (m : Int) = ((b - m : Nat) : Int) := by omega
  clear hR hn hoff ha hb hm hU hV
  go_enter Tryz.func196, Tryz.ntmps196
  go_wp2
  go_loopw [10, 11] (fun iv jv wr => ∃ (i j : Nat) (A' U' V' B' : List Int), iv = .int .i64 i ∧ jv = .int .i64 j ∧ 0 < i ∧ 0 < j ∧ i ≤ m ∧ m + j ≤ n ∧ Aside0 (i = U'.length ∧ j = V'.length ∧ A'.length + i = m) ∧ Aside0 (A' ++ V' ++ U' ++ B' = A ++ V ++ U ++ B) ∧ Aside0 (Reg wr g pre post (A' ++ U' ++ V' ++ B')) ∧ Aside0 (Chg (fun b => b = g) w wr)) (fun iv jv _ => (intOf iv).toNat + (intOf jv).toNat)
  case atStart => exact ⟨m - a, b - m, A, U, V, B, rfl, rfl, by have := HA.out; have := HM.out; have := HUV.out; omega, by have := HB.out; have := HM.out; have := HUV.out; omega, by omega, by omega, ⟨by have := HA.out; have := HM.out; omega, by have := HB.out; have := HM.out; omega, by have := HA.out; have := HM.out; omega⟩, ⟨rfl⟩, HR, ⟨Chg.refl _ _⟩⟩
  case round =>
    obtain ⟨i, j, A', U', V', B', rfl, rfl, hi0, hj0, him, hjn, HL, HE, HRr, HC⟩ := hrel
    have HNl : Aside0 (n = (A' ++ U' ++ V' ++ B').length) := ⟨by
      have h1 := congrArg List.length HE.out
      rw [HN.out]; simp at h1 ⊢; omega⟩
    have e3 : (m : Int) - (i : Int) = ((m - i : Nat) : Int) := by omega
    rcases Nat.lt_trichotomy i j with hij | hij | hij
    · have hd : ((i : Int) != (j : Int)) = true := by simp <;> omega
      have hd2 : decide ((j : Int) < (i : Int)) = false := decide_eq_false (by omega)
      have hd3 : decide (j < i) = false := decide_eq_false (by omega)
      have e4 : (m : Int) + (j : Int) - (i : Int) = ((m + j - i : Nat) : Int) := by omega
      have e5 : (j : Int) - (i : Int) = ((j - i : Nat) : Int) := by omega
      obtain ⟨V1, V2, hv, hv2⟩ : ∃ V1 V2, V' = V1 ++ V2 ∧ V2.length = i := ⟨V'.take (j - i), V'.drop (j - i), (List.take_append_drop _ _).symm, by have := HL.out; rw [List.length_drop]; omega⟩
      have HV := Aside0.mk (And.intro hv hv2)
      have HCall := Aside0.mk (SwpP wr g pre post A' U' V1 V2 B' c (by have := HRr.out; rw [hv] at this; simpa using this) n (by rw [HNl.out, hv]; simp <;> omega) hn5 off HF.out (m - i) (m + j - i) i (by have := HL.out; omega) (by have h1 := HL.out; rw [hv] at h1; simp only [List.length_append] at h1; omega) HL.out.1 hv2.symm)
      clear hv hv2
      go_wp2_with (first | (go_at_call 197; go_must (refine HCall.out.mono ?_; rintro e w2 ⟨rfl, p1, p2⟩; have C2 := Aside0.mk (HC.out.trans p1 (fun _ _ h => h)); have R2 := Aside0.mk p2; clear p1 p2)))
      go_roundw
      case rel => exact ⟨i, j - i, A', V2, V1, U' ++ B', by rfl, by go_num, by omega, by omega, by omega, by omega, ⟨HV.out.2.symm, by have := HL.out; have h2 := congrArg List.length HV.out.1; have := HV.out.2; simp at h2; omega, HL.out.2.2⟩, ⟨by rw [← HE.out, HV.out.1]; simp⟩, ⟨by have := R2.out; simpa using this⟩, C2⟩
      case measure => simp [intOf] <;> omega
    · subst hij
      have hd : ((i : Int) != (i : Int)) = false := by simp
      have HCall := Aside0.mk (SwpP wr g pre post A' U' [] V' B' c (by have := HRr.out; simpa using this) n (by rw [HNl.out]; simp) hn5 off HF.out (m - i) m i (by have := HL.out; omega) (by have := HL.out; simp only [List.length_nil]; omega) HL.out.1 HL.out.2.1)
      go_wp2_with (first | (go_at_call 197; go_must (refine HCall.out.mono ?_; rintro e w2 ⟨rfl, p1, p2⟩; have C2 := Aside0.mk (HC.out.trans p1 (fun _ _ h => h)); have R2 := Aside0.mk p2; clear p1 p2)))
      go_end0
      exact ⟨rfl, C2.out, by rw [← HE.out]; have := R2.out; simpa using this⟩
    · have hd : ((i : Int) != (j : Int)) = true := by simp <;> omega
      have hd2 : decide ((j : Int) < (i : Int)) = true := decide_eq_true (by omega)
      have hd3 : decide (j < i) = true := decide_eq_true (by omega)
      have e5 : (i : Int) - (j : Int) = ((i - j : Nat) : Int) := by omega
      obtain ⟨U1, U2, hv, hv2⟩ : ∃ U1 U2, U' = U1 ++ U2 ∧ U1.length = j := ⟨U'.take j, U'.drop j, (List.take_append_drop _ _).symm, by have := HL.out; rw [List.length_take]; omega⟩
      have HV := Aside0.mk (And.intro hv hv2)
      have HCall := Aside0.mk (SwpP wr g pre post A' U1 U2 V' B' c (by have := HRr.out; rw [hv] at this; simpa using this) n (by rw [HNl.out, hv]; simp <;> omega) hn5 off HF.out (m - i) m j (by have := HL.out; omega) (by have h1 := HL.out; rw [hv] at h1; simp only [List.length_append] at h1; omega) hv2.symm HL.out.2.1)
      clear hv hv2
      go_wp2_with (first | (go_at_call 197; go_must (refine HCall.out.mono ?_; rintro e w2 ⟨rfl, p1, p2⟩; have C2 := Aside0.mk (HC.out.trans p1 (fun _ _ h => h)); have R2 := Aside0.mk p2; clear p1 p2)))
      go_roundw
      case rel => exact ⟨i - j, j, A' ++ V', U2, U1, B', by go_num, by rfl, by omega, by omega, by omega, by omega, ⟨by have := HL.out; have h2 := congrArg List.length HV.out.1; have := HV.out.2; simp at h2; omega, HV.out.2.symm, by have := HL.out; simp; omega⟩, ⟨by rw [← HE.out, HV.out.1]; simp⟩, ⟨by have := R2.out; simpa using this⟩, C2⟩
      case measure => simp [intOf] <;> omega
end Go.Proofs.YtdambnclbpipdaaGreatDoor.Nr
namespace Go.Proofs.YtdambnclbpipdaaGreatDoor.Ns
set_option linter.unusedVariables false
set_option linter.unusedSimpArgs false
open Go.RowKit Go.Proofs.YtdambnclbpipdaaGreatDoorW.PrintWords Go.Proofs.YtdambnclbpipdaaGreatDoor.Hp Go.Proofs.YtdambnclbpipdaaGreatDoor.Va Go.Proofs.YtdambnclbpipdaaGreatDoor.Na Go.Proofs.YtdambnclbpipdaaGreatDoor.Nb Go.Proofs.YtdambnclbpipdaaGreatDoor.Nc Go.Proofs.YtdambnclbpipdaaGreatDoor.Nd Go.Proofs.YtdambnclbpipdaaGreatDoor.Nr
theorem Reg.one {w : World} {g : Nat} {pre post : List Value} {P Q : List Int} {x : Int} (h : Reg w g pre post (P ++ x :: Q)) {off p : Nat} (ho : off = pre.length) (hp : p = P.length) : w.cell? ⟨g, off + p, none⟩ = some (.int .i32 x) := by
  subst ho hp
  have := h.at_ P.length (by simp)
  rw [Nc.get_at] at this
  exact this
theorem split_at {S : List Int} {t : Nat} (h : t < S.length) : ∃ y, S = S.take t ++ y :: S.drop (t + 1) ∧ S.drop t = y :: S.drop (t + 1) ∧ S.take (t + 1) = S.take t ++ [y] ∧ cls y = K S t :=
  ⟨S[t], by rw [← List.drop_eq_getElem_cons, List.take_append_drop], by rw [← List.drop_eq_getElem_cons], by rw [List.take_succ_eq_append_getElem], by unfold K; rw [List.getD_eq_getElem?_getD, List.getElem?_eq_getElem h]; rfl⟩
set_option maxRecDepth 100000 in
set_option maxHeartbeats 4000000 in
theorem MrgL (w : World) (hG : G w) (g : Nat) (hg : 3 ≤ g) (pre post : List Value) (A S C : List Int) (x : Int) (c : Nat) (hS : Srt S) (hS0 : 0 < S.length) (hR : Reg w g pre post (A ++ [x] ++ S ++ C)) (n : Nat) (hn : n = (A ++ [x] ++ S ++ C).length) (hn5 : n ≤ 1000000000000000) (off : Nat) (hoff : off = pre.length) (a m b : Nat) (ha : a = A.length) (hm : m = a + 1) (hb : b = m + S.length) :
    Calls Tryz.prog 195 #[.slice (some ⟨g, off, none⟩) n c, .int .i64 (a : Int), .int .i64 (m : Int), .int .i64 (b : Int), .func (.func 178) #[] #[]] w (InsPost w g pre post A ([x] ++ S) C) := by
  have HG := Aside0.mk hG
  have HR := Aside0.mk hR
  have HS := Aside0.mk hS
  have HF := Aside0.mk hoff
  have HA := Aside0.mk ha
  have HB := Aside0.mk hb
  have HM := Aside0.mk hm
  have hbn : b ≤ n := by rw [hb, hm, ha, hn]; simp <;> omega
  have hmb : m < b := by omega
  have ham : a < m := by omega
  have e1 : (m : Int) - (a : Int) = 1 := by omega
  clear hG hR hn hoff ha hb hm hS hS0
  go_enter Tryz.func195, Tryz.ntmps195
  go_wp2
  go_loopw [10, 11, 12] (fun iv jv hv wr => ∃ i j : Nat, iv = .int .i64 i ∧ jv = .int .i64 j ∧ m ≤ i ∧ i ≤ j ∧ j ≤ b ∧ Aside0 (∀ t, t < i - m → t < S.length → K S t < cls x) ∧ Aside0 (∀ t, j - m ≤ t → t < S.length → cls x ≤ K S t) ∧ Aside0 (Reg wr g pre post (A ++ [x] ++ S ++ C)) ∧ Aside0 (Chg (fun b => b = g) w wr)) (fun iv jv _ _ => (intOf jv).toNat - (intOf iv).toNat)
  case atStart => exact ⟨m, b, rfl, rfl, Nat.le_refl _, by omega, Nat.le_refl _, ⟨fun t h => by omega⟩, ⟨fun t h1 h2 => by have := HB.out; omega⟩, HR, ⟨Chg.refl _ _⟩⟩
  case round =>
    obtain ⟨i, j, rfl, rfl, hmi, hij, hjb, HL, HH, HRr, HC⟩ := hrel
    by_cases hlt : i < j
    · have hd : decide ((i : Int) < (j : Int)) = true := decide_eq_true (by omega)
      obtain ⟨h, hh⟩ : ∃ h, h = (i + j) / 2 := ⟨_, rfl⟩
      have hh1 : i ≤ h := by omega
      have hh2 : h < j := by omega
      have hu1 : IntKind.u64.wrap ((i : Int) + (j : Int)) = (i : Int) + (j : Int) := by rw [IntKind.wrap_u64]; omega
      have hu2 : ((i : Int) + (j : Int)) / 2 = (h : Int) := by omega
      have hu3 : IntKind.i64.wrap (h : Int) = (h : Int) := IntWalk.i64_in _ (by omega)
      obtain ⟨y, hy1, -, -, hy4⟩ := split_at (S := S) (t := h - m) (by have := HB.out; omega)
      have hr := HRr.out
      have c1 := hr
      rw [hy1, show A ++ [x] ++ (S.take (h - m) ++ y :: S.drop (h - m + 1)) ++ C = (A ++ [x] ++ S.take (h - m)) ++ y :: (S.drop (h - m + 1) ++ C) by simp] at c1
      have c1 := Reg.one c1 HF.out (p := h) (by have := HA.out; have := HM.out; have := HB.out; simp; omega)
      have c2 := hr
      rw [show A ++ [x] ++ S ++ C = A ++ x :: (S ++ C) by simp] at c2
      have c2 := Reg.one c2 HF.out (p := a) HA.out
      have HY := Aside0.mk hy4
      clear hr hy1 hy4 hh
      have l1 : ∀ p : Aft wr, p.w'.cell? ⟨g, off + h, none⟩ = some (.int .i32 y) := fun p => p.cell c1
      have l2 : ∀ p : Aft wr, p.w'.cell? ⟨g, off + a, none⟩ = some (.int .i32 x) := fun p => p.cell c2
      have HG2 := Aside0.mk (show ∀ p : Aft wr, G p.w' from fun p => (G_chg HG.out HC.out (fun k hk e => by omega)).below p.hb)
      have hj1 : (h : Int) < (n : Int) := by omega
      have hj2 : (a : Int) < (n : Int) := by omega
      clear c1 c2
      by_cases hyx : cls y < cls x
      · have hc : decide (cmpv (cls y) (cls x) < 0) = true := by rw [cmpv_neg]; exact decide_eq_true hyx
        go_wp2
        refine wp_region_aft (by kernel_rfl) (by kernel_rfl) ?_
        repeat (quiet_step (first | (go_at_call 178; exact aft_of (CmpP _ (HG2.out _) y x))))
        refine wpQuiet_nil ?_
        rintro w3 ⟨⟨_, hb3⟩, rfl⟩
        have HR4 := Aside0.mk (HRr.out.below hb3)
        have HC4 := Aside0.mk (HC.out.then_below hb3)
        clear l1 l2 hb3 HG2 HRr HC
        go_wp2
        go_roundw
        case rel => exact ⟨h + 1, j, by go_num, rfl, by omega, by omega, by omega, ⟨fun t h1 h2 => Int.lt_of_le_of_lt (srt_le HS.out (show t ≤ h - m by omega) (by have := HB.out; omega)) (HY.out ▸ hyx)⟩, HH, HR4, HC4⟩
        case measure => simp [intOf] <;> omega
      · have hc : decide (cmpv (cls y) (cls x) < 0) = false := by rw [cmpv_neg]; exact decide_eq_false hyx
        go_wp2
        refine wp_region_aft (by kernel_rfl) (by kernel_rfl) ?_
        repeat (quiet_step (first | (go_at_call 178; exact aft_of (CmpP _ (HG2.out _) y x))))
        refine wpQuiet_nil ?_
        rintro w3 ⟨⟨_, hb3⟩, rfl⟩
        have HR4 := Aside0.mk (HRr.out.below hb3)
        have HC4 := Aside0.mk (HC.out.then_below hb3)
        clear l1 l2 hb3 HG2 HRr HC
        go_wp2
        go_roundw
        case rel => exact ⟨i, h, rfl, rfl, by omega, by omega, by omega, HL, ⟨fun t h1 h2 => Int.le_trans (by rw [← HY.out]; omega) (srt_le HS.out h1 h2)⟩, HR4, HC4⟩
        case measure => simp [intOf] <;> omega
    · have hd : decide ((i : Int) < (j : Int)) = false := decide_eq_false (by omega)
      obtain rfl : i = j := by omega
      have HO := Aside0.mk (one_left (S := S) (x := x) HS.out (i - m) HL.out HH.out)
      have e2 : (i : Int) - 1 = ((i - 1 : Nat) : Int) := by omega
      clear HL HH
      go_wp2
      go_loopw [13] (fun kv wr => ∃ k : Nat, kv = .int .i64 k ∧ a ≤ k ∧ k ≤ i - 1 ∧ Aside0 (Reg wr g pre post (A ++ S.take (k - a) ++ [x] ++ S.drop (k - a) ++ C)) ∧ Aside0 (Chg (fun b => b = g) w wr)) (fun kv _ => i - 1 - (intOf kv).toNat)
      case atStart => exact ⟨a, rfl, Nat.le_refl _, by omega, ⟨by have := HRr.out; simpa using this⟩, HC⟩
      case round =>
        clear HRr HC
        obtain ⟨k, rfl, hak, hki, HRr, HC⟩ := hrel
        by_cases hlt : k < i - 1
        · have hd : decide ((k : Int) < ((i - 1 : Nat) : Int)) = true := decide_eq_true (by omega)
          have hd2 : decide (k < i - 1) = true := decide_eq_true hlt
          obtain ⟨y, -, hy2, hy3, -⟩ := split_at (S := S) (t := k - a) (by have := HB.out; have := HM.out; omega)
          have hr := HRr.out
          rw [hy2, show A ++ S.take (k - a) ++ [x] ++ (y :: S.drop (k - a + 1)) ++ C = (A ++ S.take (k - a)) ++ x :: ([] ++ y :: (S.drop (k - a + 1) ++ C)) by simp] at hr
          have hpl : k = (A ++ S.take (k - a)).length := by have := HA.out; have := HB.out; have := HM.out; simp; omega
          obtain ⟨c1, c2, hSw, -⟩ := hr.two HF.out hpl (q := k + 1) (by rw [← hpl]; rfl)
          have f1 := hr.free (off + k)
          have f2 := hr.free (off + (k + 1))
          obtain ⟨z, c3⟩ : ∃ z, (wr.setCell ⟨g, off + k, none⟩ (.int .i32 y)).cell? ⟨g, off + (k + 1), none⟩ = some z := cell?_setCell_some c2
          have hj1 : ((k : Int) + 1).toNat = k + 1 := by omega
          have hj2 : (0 : Int) ≤ (k : Int) + 1 := by omega
          have hj3 : (k : Int) + 1 < (n : Int) := by omega
          have hj4 : IntKind.i64.wrap ((k : Int) + 1) = (k : Int) + 1 := IntWalk.i64_in _ (by omega)
          have hj5 : (k : Int) < (n : Int) := by omega
          have hj6 : (0 : Int) ≤ (k : Int) := by omega
          have HSw := Aside0.mk hSw
          have HY := Aside0.mk hy3
          clear hSw hy2 hy3 hr hpl
          go_wp2
          go_big_region
          have HR5 := Aside0.mk (HSw.out.drew)
          have HC5 := Aside0.mk (((HC.out.setCell (p := ⟨g, off + k, none⟩) (.inl rfl) (.int .i32 y)).setCell (p := ⟨g, off + (k + 1), none⟩) (.inl rfl) (.int .i32 x)).drew)
          clear HSw HC c1 c2 c3 f1 f2 hj1 hj2 hj3 hj4 hj5 hj6
          generalize ((wr.setCell ⟨g, off + k, none⟩ (.int .i32 y)).setCell ⟨g, off + (k + 1), none⟩ (.int .i32 x)).drew = w4 at HR5 HC5 ⊢
          go_wp2
          go_roundw
          case rel => exact ⟨k + 1, by go_num, by omega, by omega, ⟨by rw [show k + 1 - a = k - a + 1 by omega, HY.out]; have := HR5.out; simpa using this⟩, HC5⟩
          case measure => simp [intOf] <;> omega
        · have hd : decide ((k : Int) < ((i - 1 : Nat) : Int)) = false := decide_eq_false (by omega)
          have hd2 : decide (k < i - 1) = false := decide_eq_false hlt
          have HK : Aside0 (k - a = i - m) := ⟨by have := HM.out; omega⟩
          go_wp2
          go_end0
          exact ⟨rfl, HC.out, S.take (i - m) ++ x :: S.drop (i - m), by have := HRr.out; rw [HK.out] at this; simpa using this, HO.out.1, HO.out.2⟩
set_option maxRecDepth 100000 in
set_option maxHeartbeats 4000000 in
theorem MrgR (w : World) (hG : G w) (g : Nat) (hg : 3 ≤ g) (pre post : List Value) (A S C : List Int) (y : Int) (c : Nat) (hS : Srt S) (hS0 : 1 < S.length) (hR : Reg w g pre post (A ++ S ++ [y] ++ C)) (n : Nat) (hn : n = (A ++ S ++ [y] ++ C).length) (hn5 : n ≤ 1000000000000000) (off : Nat) (hoff : off = pre.length) (a m b : Nat) (ha : a = A.length) (hm : m = a + S.length) (hb : b = m + 1) :
    Calls Tryz.prog 195 #[.slice (some ⟨g, off, none⟩) n c, .int .i64 (a : Int), .int .i64 (m : Int), .int .i64 (b : Int), .func (.func 178) #[] #[]] w (InsPost w g pre post A (S ++ [y]) C) := by
  have HG := Aside0.mk hG
  have HR := Aside0.mk hR
  have HS := Aside0.mk hS
  have HF := Aside0.mk hoff
  have HA := Aside0.mk ha
  have HB := Aside0.mk hb
  have HM := Aside0.mk hm
  have hbn : b ≤ n := by rw [hb, hm, ha, hn]; simp <;> omega
  have hmb : m < b := by omega
  have ham : a + 1 < m := by omega
  obtain ⟨q, hq⟩ : ∃ q : Nat, q = m - a := ⟨_, rfl⟩
  have hq1 : 1 < q := by omega
  have e1 : (m : Int) - (a : Int) = (q : Int) := by omega
  have e1b : ((q : Int) == 1) = false := by simp <;> omega
  have e2 : (b : Int) - (m : Int) = 1 := by omega
  clear hG hR hn hoff ha hb hm hS hS0 hq
  go_enter Tryz.func195, Tryz.ntmps195
  go_wp2
  go_loopw [14, 15, 16] (fun iv jv hv wr => ∃ i j : Nat, iv = .int .i64 i ∧ jv = .int .i64 j ∧ a ≤ i ∧ i ≤ j ∧ j ≤ m ∧ Aside0 (∀ t, t < i - a → t < S.length → K S t ≤ cls y) ∧ Aside0 (∀ t, j - a ≤ t → t < S.length → cls y < K S t) ∧ Aside0 (Reg wr g pre post (A ++ S ++ [y] ++ C)) ∧ Aside0 (Chg (fun b => b = g) w wr)) (fun iv jv _ _ => (intOf jv).toNat - (intOf iv).toNat)
  case atStart => exact ⟨a, m, rfl, rfl, Nat.le_refl _, by omega, Nat.le_refl _, ⟨fun t h => by omega⟩, ⟨fun t h1 h2 => by have := HM.out; omega⟩, HR, ⟨Chg.refl _ _⟩⟩
  case round =>
    obtain ⟨i, j, rfl, rfl, hmi, hij, hjb, HL, HH, HRr, HC⟩ := hrel
    by_cases hlt : i < j
    · have hd : decide ((i : Int) < (j : Int)) = true := decide_eq_true (by omega)
      obtain ⟨h, hh⟩ : ∃ h, h = (i + j) / 2 := ⟨_, rfl⟩
      have hh1 : i ≤ h := by omega
      have hh2 : h < j := by omega
      have hu1 : IntKind.u64.wrap ((i : Int) + (j : Int)) = (i : Int) + (j : Int) := by rw [IntKind.wrap_u64]; omega
      have hu2 : ((i : Int) + (j : Int)) / 2 = (h : Int) := by omega
      have hu3 : IntKind.i64.wrap (h : Int) = (h : Int) := IntWalk.i64_in _ (by omega)
      obtain ⟨x, hy1, -, -, hy4⟩ := split_at (S := S) (t := h - a) (by have := HM.out; omega)
      have hr := HRr.out
      have c1 := hr
      rw [hy1, show A ++ (S.take (h - a) ++ x :: S.drop (h - a + 1)) ++ [y] ++ C = (A ++ S.take (h - a)) ++ x :: (S.drop (h - a + 1) ++ [y] ++ C) by simp] at c1
      have c1 := Reg.one c1 HF.out (p := h) (by have := HA.out; have := HM.out; have := HB.out; simp; omega)
      have c2 := hr
      rw [show A ++ S ++ [y] ++ C = (A ++ S) ++ y :: C by simp] at c2
      have c2 := Reg.one c2 HF.out (p := m) (by have := HA.out; have := HM.out; simp; omega)
      have HY := Aside0.mk hy4
      clear hr hy1 hy4 hh
      have l1 : ∀ p : Aft wr, p.w'.cell? ⟨g, off + h, none⟩ = some (.int .i32 x) := fun p => p.cell c1
      have l2 : ∀ p : Aft wr, p.w'.cell? ⟨g, off + m, none⟩ = some (.int .i32 y) := fun p => p.cell c2
      have HG2 := Aside0.mk (show ∀ p : Aft wr, G p.w' from fun p => (G_chg HG.out HC.out (fun k hk e => by omega)).below p.hb)
      have hj1 : (h : Int) < (n : Int) := by omega
      have hj2 : (m : Int) < (n : Int) := by omega
      clear c1 c2
      by_cases hyx : cls y < cls x
      · have hc : decide (cmpv (cls y) (cls x) < 0) = true := by rw [cmpv_neg]; exact decide_eq_true hyx
        go_wp2
        refine wp_region_aft (by kernel_rfl) (by kernel_rfl) ?_
        repeat (quiet_step (first | (go_at_call 178; exact aft_of (CmpP _ (HG2.out _) y x))))
        refine wpQuiet_nil ?_
        rintro w3 ⟨⟨_, hb3⟩, rfl⟩
        have HR4 := Aside0.mk (HRr.out.below hb3)
        have HC4 := Aside0.mk (HC.out.then_below hb3)
        clear l1 l2 hb3 HG2 HRr HC
        go_wp2
        go_roundw
        case rel => exact ⟨i, h, rfl, rfl, by omega, by omega, by omega, HL, ⟨fun t h1 h2 => Int.lt_of_lt_of_le (HY.out ▸ hyx) (srt_le HS.out h1 h2)⟩, HR4, HC4⟩
        case measure => simp [intOf] <;> omega
      · have hc : decide (cmpv (cls y) (cls x) < 0) = false := by rw [cmpv_neg]; exact decide_eq_false hyx
        go_wp2
        refine wp_region_aft (by kernel_rfl) (by kernel_rfl) ?_
        repeat (quiet_step (first | (go_at_call 178; exact aft_of (CmpP _ (HG2.out _) y x))))
        refine wpQuiet_nil ?_
        rintro w3 ⟨⟨_, hb3⟩, rfl⟩
        have HR4 := Aside0.mk (HRr.out.below hb3)
        have HC4 := Aside0.mk (HC.out.then_below hb3)
        clear l1 l2 hb3 HG2 HRr HC
        go_wp2
        go_roundw
        case rel => exact ⟨h + 1, j, by go_num, rfl, by omega, by omega, by omega, ⟨fun t h1 h2 => Int.le_trans (srt_le HS.out (show t ≤ h - a by omega) (by have := HM.out; omega)) (by rw [← HY.out]; omega)⟩, HH, HR4, HC4⟩
        case measure => simp [intOf] <;> omega
    · have hd : decide ((i : Int) < (j : Int)) = false := decide_eq_false (by omega)
      obtain rfl : i = j := by omega
      have HO := Aside0.mk (one_right (S := S) (y := y) HS.out (i - a) HL.out HH.out)
      clear HL HH
      go_wp2
      go_loopw [17] (fun kv wr => ∃ k : Nat, kv = .int .i64 k ∧ i ≤ k ∧ k ≤ m ∧ Aside0 (Reg wr g pre post (A ++ S.take (k - a) ++ [y] ++ S.drop (k - a) ++ C)) ∧ Aside0 (Chg (fun b => b = g) w wr)) (fun kv _ => (intOf kv).toNat)
      case atStart => exact ⟨m, rfl, hjb, Nat.le_refl _, ⟨by have h1 := HM.out; have := HRr.out; rw [List.take_of_length_le (by omega), List.drop_of_length_le (by omega)]; simpa using this⟩, HC⟩
      case round =>
        clear HRr HC
        obtain ⟨k, rfl, hik, hkm, HRr, HC⟩ := hrel
        by_cases hlt : i < k
        · have hd : decide ((i : Int) < (k : Int)) = true := decide_eq_true (by omega)
          have hd2 : decide (i < k) = true := decide_eq_true hlt
          obtain ⟨kp, rfl⟩ : ∃ q, k = q + 1 := ⟨k - 1, by omega⟩
          have hd3 : decide ((i : Int) < (kp : Int) + 1) = true := decide_eq_true (by omega)
          obtain ⟨x, -, hy2, hy3, -⟩ := split_at (S := S) (t := kp - a) (by have := HM.out; omega)
          have hr := HRr.out
          rw [show kp + 1 - a = kp - a + 1 by omega, hy3, show A ++ (S.take (kp - a) ++ [x]) ++ [y] ++ S.drop (kp - a + 1) ++ C = (A ++ S.take (kp - a)) ++ x :: ([] ++ y :: (S.drop (kp - a + 1) ++ C)) by simp] at hr
          have hpl : kp = (A ++ S.take (kp - a)).length := by have := HA.out; have := HB.out; have := HM.out; simp; omega
          obtain ⟨c1, c2, -, hSw⟩ := hr.two HF.out hpl (q := kp + 1) (by rw [← hpl]; rfl)
          have f1 := hr.free (off + kp)
          have f2 := hr.free (off + (kp + 1))
          obtain ⟨z, c3⟩ : ∃ z, (wr.setCell ⟨g, off + (kp + 1), none⟩ (.int .i32 x)).cell? ⟨g, off + kp, none⟩ = some z := cell?_setCell_some c1
          have hj1 : ((kp : Int) + 1).toNat = kp + 1 := by omega
          have hj2 : (0 : Int) ≤ (kp : Int) + 1 := by omega
          have hj3 : (kp : Int) + 1 < (n : Int) := by omega
          have hj4 : IntKind.i64.wrap (kp : Int) = (kp : Int) := IntWalk.i64_in _ (by omega)
          have hj5 : (kp : Int) < (n : Int) := by omega
          have hj6 : (0 : Int) ≤ (kp : Int) := by omega
          have HSw := Aside0.mk hSw
          have HY := Aside0.mk hy2
          clear hSw hy2 hy3 hr hpl
          go_wp2
          go_big_region
          have HR5 := Aside0.mk (HSw.out.drew)
          have HC5 := Aside0.mk (((HC.out.setCell (p := ⟨g, off + (kp + 1), none⟩) (.inl rfl) (.int .i32 x)).setCell (p := ⟨g, off + kp, none⟩) (.inl rfl) (.int .i32 y)).drew)
          clear HSw HC c1 c2 c3 f1 f2 hj1 hj2 hj3 hj4 hj5 hj6
          generalize ((wr.setCell ⟨g, off + (kp + 1), none⟩ (.int .i32 x)).setCell ⟨g, off + kp, none⟩ (.int .i32 y)).drew = w4 at HR5 HC5 ⊢
          go_wp2
          go_roundw
          case rel => exact ⟨kp, by go_num, by omega, by omega, ⟨by rw [HY.out]; have := HR5.out; simpa using this⟩, HC5⟩
          case measure => simp [intOf] <;> omega
        · have hd : decide ((i : Int) < (k : Int)) = false := decide_eq_false (by omega)
          have hd2 : decide (i < k) = false := decide_eq_false hlt
          obtain rfl : i = k := by omega
          go_wp2
          go_end0
          exact ⟨rfl, HC.out, S.take (i - a) ++ y :: S.drop (i - a), by have := HRr.out; simpa using this, HO.out.1, HO.out.2⟩
end Go.Proofs.YtdambnclbpipdaaGreatDoor.Ns
namespace Go.Proofs.YtdambnclbpipdaaGreatDoor.Nt
set_option linter.unusedVariables false
set_option linter.unusedSimpArgs false
set_option linter.unusedVariables false
set_option linter.unusedSimpArgs false
open Go.RowKit Go.Proofs.YtdambnclbpipdaaGreatDoorW.PrintWords Go.Proofs.YtdambnclbpipdaaGreatDoor.Hp Go.Proofs.YtdambnclbpipdaaGreatDoor.Va Go.Proofs.YtdambnclbpipdaaGreatDoor.Na Go.Proofs.YtdambnclbpipdaaGreatDoor.Nb Go.Proofs.YtdambnclbpipdaaGreatDoor.Nc Go.Proofs.YtdambnclbpipdaaGreatDoor.Nd Go.Proofs.YtdambnclbpipdaaGreatDoor.Nr Go.Proofs.YtdambnclbpipdaaGreatDoor.Ns
def Merges (off n c g : Nat) (pre post : List Value) (L : Nat) : Prop :=
  ∀ (w : World) (A S T C : List Int) (a m b : Nat), G w → Srt S → Srt T → 0 < S.length → 0 < T.length → S.length + T.length ≤ L → Reg w g pre post (A ++ S ++ T ++ C) → n = (A ++ S ++ T ++ C).length → a = A.length → m = a + S.length → b = m + T.length →
    Calls Tryz.prog 195 #[.slice (some ⟨g, off, none⟩) n c, .int .i64 (a : Int), .int .i64 (m : Int), .int .i64 (b : Int), .func (.func 178) #[] #[]] w (InsPost w g pre post A (S ++ T) C)
set_option maxRecDepth 100000 in
set_option maxHeartbeats 8000000 in
theorem MrgG (g : Nat) (hg : 3 ≤ g) (pre post : List Value) (n c off L : Nat) (hn5 : n ≤ 1000000000000000) (hoff : off = pre.length) (ih : Merges off n c g pre post L)
    (w : World) (hG : G w) (A S T C : List Int) (hS : Srt S) (hT : Srt T) (hS0 : 1 < S.length) (hT0 : 1 < T.length) (hL : S.length + T.length ≤ L + 1) (hR : Reg w g pre post (A ++ S ++ T ++ C)) (hn : n = (A ++ S ++ T ++ C).length) (a m b : Nat) (ha : a = A.length) (hm : m = a + S.length) (hb : b = m + T.length) (mid : Nat) (hmid : mid = (a + b) / 2)
    (lo hi : Nat) (hlh : (mid < m ∧ lo = mid + m - b ∧ hi = mid) ∨ (m ≤ mid ∧ lo = a ∧ hi = m)) :
    Calls Tryz.prog 195 #[.slice (some ⟨g, off, none⟩) n c, .int .i64 (a : Int), .int .i64 (m : Int), .int .i64 (b : Int), .func (.func 178) #[] #[]] w (InsPost w g pre post A (S ++ T) C) := by
  have HG := Aside0.mk hG
  have HR := Aside0.mk hR
  have HS := Aside0.mk hS
  have HT := Aside0.mk hT
  have HF := Aside0.mk hoff
  have HA := Aside0.mk ha
  have HB := Aside0.mk hb
  have HM := Aside0.mk hm
  have HN := Aside0.mk hn
  have HL := Aside0.mk hL
  have HIH := Aside0.mk ih
  have HLH := Aside0.mk hlh
  have hbn : b ≤ n := by rw [hb, hm, ha, hn]; simp <;> omega
  have hmb : m + 1 < b := by omega
  have ham : a + 1 < m := by omega
  have hamid : a < mid := by omega
  have hmidb : mid < b := by omega
  have hlo1 : a ≤ lo := by omega
  have hlo2 : mid + m - b ≤ lo := by omega
  have hlo3 : lo ≤ hi := by omega
  have hhi1 : hi ≤ m := by omega
  have hhi2 : hi ≤ mid := by omega
  obtain ⟨q, hq⟩ : ∃ q : Nat, q = m - a := ⟨_, rfl⟩
  obtain ⟨q2, hq2⟩ : ∃ q : Nat, q = b - m := ⟨_, rfl⟩
  obtain ⟨N, hN⟩ : ∃ N : Nat, N = mid + m := ⟨_, rfl⟩
  have e1 : (m : Int) - (a : Int) = (q : Int) := by omega
  have e1b : ((q : Int) == 1) = false := by simp <;> omega
  have e2 : (b : Int) - (m : Int) = (q2 : Int) := by omega
  have e2b : ((q2 : Int) == 1) = false := by simp <;> omega
  have e3 : IntKind.u64.wrap ((a : Int) + (b : Int)) = (a : Int) + (b : Int) := by rw [IntKind.wrap_u64]; omega
  have e4 : ((a : Int) + (b : Int)) / 2 = (mid : Int) := by omega
  have e5 : (mid : Int) + (m : Int) = (N : Int) := by omega
  have e6 : (N : Int) - 1 = ((N - 1 : Nat) : Int) := by omega
  have HNN := Aside0.mk hN
  clear hG hR hn hoff ha hb hm hS hS0 hT hT0 hq hq2 hL hlh hmid hN ih
  go_enter Tryz.func195, Tryz.ntmps195
  go_upto_if 140 with (fail)
  go_cut [20, 21] (fun sv rv wc => sv = .int .i64 lo ∧ rv = .int .i64 hi ∧ wc = w)
  case first =>
    as_aux_lemma =>
    rcases HLH.out with ⟨h1, h2, h3⟩ | ⟨h1, h2, h3⟩
    · have h3 := h3.symm
      subst h3
      have hd0 : decide ((mid : Int) < (m : Int)) = true := decide_eq_true (by omega)
      have hd0b : decide (mid < m) = true := decide_eq_true h1
      have e7 : (N : Int) - (b : Int) = (lo : Int) := by have := HNN.out; omega
      clear HLH h2
      go_wp2
      go_meet
      case rel => exact ⟨rfl, rfl, rfl⟩
    · have h2 := h2.symm
      have h3 := h3.symm
      subst h2 h3
      have hd0 : decide ((mid : Int) < (m : Int)) = false := decide_eq_false (by omega)
      have hd0b : decide (mid < m) = false := decide_eq_false (by omega)
      clear HLH
      go_wp2
      go_meet
      case rel => exact ⟨rfl, rfl, rfl⟩
  case rest =>
    as_aux_lemma =>
    obtain ⟨h20, h21, hw⟩ := hcut
    have hw := hw.symm
    subst h20 h21 hw
    go_wp2
    go_loopw [20, 21, 23] (fun sv rv cv wr => ∃ s r : Nat, sv = .int .i64 s ∧ rv = .int .i64 r ∧ lo ≤ s ∧ s ≤ r ∧ r ≤ hi ∧ Aside0 (∀ t, lo ≤ t → t < s → K S (t - a) ≤ K T (mid - 1 - t)) ∧ Aside0 (∀ t, r ≤ t → t < hi → K T (mid - 1 - t) < K S (t - a)) ∧ Aside0 (Reg wr g pre post (A ++ S ++ T ++ C)) ∧ Aside0 (Chg (fun b => b = g) w wr)) (fun sv rv _ _ => (intOf rv).toNat - (intOf sv).toNat)
    case atStart => exact ⟨lo, hi, rfl, rfl, Nat.le_refl _, hlo3, Nat.le_refl _, ⟨fun t h1 h2 => by omega⟩, ⟨fun t h1 h2 => by omega⟩, HR, ⟨Chg.refl _ _⟩⟩
    case round =>
      obtain ⟨s, r, rfl, rfl, hs1, hsr, hr2, HLo, HHi, HRr, HC⟩ := hrel
      by_cases hlt : s < r
      · have hd : decide ((s : Int) < (r : Int)) = true := decide_eq_true (by omega)
        obtain ⟨h, hh⟩ : ∃ h, h = (s + r) / 2 := ⟨_, rfl⟩
        have hh1 : s ≤ h := by omega
        have hh2 : h < r := by omega
        have hu1 : IntKind.u64.wrap ((s : Int) + (r : Int)) = (s : Int) + (r : Int) := by rw [IntKind.wrap_u64]; omega
        have hu2 : ((s : Int) + (r : Int)) / 2 = (h : Int) := by omega
        have hu3 : IntKind.i64.wrap (h : Int) = (h : Int) := IntWalk.i64_in _ (by omega)
        obtain ⟨d, hd5⟩ : ∃ d, d = N - 1 - h := ⟨_, rfl⟩
        have hsub : ((N - 1 : Nat) : Int) - (h : Int) = (d : Int) := by have := HNN.out; omega
        have hsub2 : IntKind.i64.wrap (d : Int) = (d : Int) := IntWalk.i64_in _ (by have := HNN.out; omega)
        obtain ⟨x, hx1, -, -, hx4⟩ := split_at (S := S) (t := h - a) (by have := HM.out; omega)
        obtain ⟨y, hy1, -, -, hy4⟩ := split_at (S := T) (t := mid - 1 - h) (by have := HB.out; have := HNN.out; omega)
        have c1 := HRr.out
        rw [hx1, show A ++ (S.take (h - a) ++ x :: S.drop (h - a + 1)) ++ T ++ C = (A ++ S.take (h - a)) ++ x :: (S.drop (h - a + 1) ++ T ++ C) by simp] at c1
        have c1 := Reg.one c1 HF.out (p := h) (by have := HA.out; have := HM.out; simp; omega)
        have c2 := HRr.out
        rw [hy1, show A ++ S ++ (T.take (mid - 1 - h) ++ y :: T.drop (mid - 1 - h + 1)) ++ C = (A ++ S ++ T.take (mid - 1 - h)) ++ y :: (T.drop (mid - 1 - h + 1) ++ C) by simp] at c2
        have c2 := Reg.one c2 HF.out (p := d) (by have := HA.out; have := HM.out; have := HB.out; have := HNN.out; simp; omega)
        have HX := Aside0.mk hx4
        have HY := Aside0.mk hy4
        have hj1 : (h : Int) < (n : Int) := by omega
        have hj2 : (d : Int) < (n : Int) := by have := HNN.out; omega
        have HT1 : Aside0 (∀ t, t ≤ h → lo ≤ t → K S (t - a) ≤ K S (h - a) ∧ K T (mid - 1 - h) ≤ K T (mid - 1 - t)) := ⟨fun t h1 h2 => ⟨srt_le HS.out (by omega) (by have := HM.out; omega), srt_le HT.out (by omega) (by have := HB.out; have := HNN.out; omega)⟩⟩
        have HT2 : Aside0 (∀ t, h ≤ t → t < hi → K S (h - a) ≤ K S (t - a) ∧ K T (mid - 1 - t) ≤ K T (mid - 1 - h)) := ⟨fun t h1 h2 => ⟨srt_le HS.out (by omega) (by have := HM.out; omega), srt_le HT.out (by omega) (by have := HB.out; have := HNN.out; omega)⟩⟩
        clear hx1 hx4 hy1 hy4 hh hd5
        have l1 : ∀ p : Aft wr, p.w'.cell? ⟨g, off + h, none⟩ = some (.int .i32 x) := fun p => p.cell c1
        have l2 : ∀ p : Aft wr, p.w'.cell? ⟨g, off + d, none⟩ = some (.int .i32 y) := fun p => p.cell c2
        have HG2 := Aside0.mk (show ∀ p : Aft wr, G p.w' from fun p => (G_chg HG.out HC.out (fun k hk e => by omega)).below p.hb)
        clear c1 c2
        by_cases hyx : cls y < cls x
        · have hc : decide (cmpv (cls y) (cls x) < 0) = true := by rw [cmpv_neg]; exact decide_eq_true hyx
          go_wp2
          refine wp_region_aft (by kernel_rfl) (by kernel_rfl) ?_
          repeat (quiet_step (first | (go_at_call 178; exact aft_of (CmpP _ (HG2.out _) y x))))
          refine wpQuiet_nil ?_
          rintro w3 ⟨⟨_, hb3⟩, rfl⟩
          have HR4 := Aside0.mk (HRr.out.below hb3)
          have HC4 := Aside0.mk (HC.out.then_below hb3)
          clear l1 l2 hb3 HG2 HRr HC
          go_wp2
          go_roundw
          case rel => exact ⟨s, h, rfl, rfl, by omega, by omega, by omega, HLo, ⟨fun t h1 h2 => by have := HT2.out t h1 h2; have := HX.out; have := HY.out; omega⟩, HR4, HC4⟩
          case measure => simp [intOf] <;> omega
        · have hc : decide (cmpv (cls y) (cls x) < 0) = false := by rw [cmpv_neg]; exact decide_eq_false hyx
          go_wp2
          refine wp_region_aft (by kernel_rfl) (by kernel_rfl) ?_
          repeat (quiet_step (first | (go_at_call 178; exact aft_of (CmpP _ (HG2.out _) y x))))
          refine wpQuiet_nil ?_
          rintro w3 ⟨⟨_, hb3⟩, rfl⟩
          have HR4 := Aside0.mk (HRr.out.below hb3)
          have HC4 := Aside0.mk (HC.out.then_below hb3)
          clear l1 l2 hb3 HG2 HRr HC
          go_wp2
          go_roundw
          case rel => exact ⟨h + 1, r, by go_num, rfl, by omega, by omega, by omega, ⟨fun t h1 h2 => by have := HT1.out t (by omega) (by omega); have := HX.out; have := HY.out; omega⟩, HHi, HR4, HC4⟩
          case measure => simp [intOf] <;> omega
      · have hd : decide ((s : Int) < (r : Int)) = false := decide_eq_false (by omega)
        obtain rfl : s = r := by omega
        have e8 : (N : Int) - (s : Int) = ((N - s : Nat) : Int) := by have := HNN.out; omega
        obtain ⟨E, hE⟩ : ∃ E, E = N - s := ⟨_, rfl⟩
        rw [← hE] at e8
        have HE := Aside0.mk hE
        have HP := Aside0.mk (parted (S1 := S) (S2 := T) (s := s - a) (e := mid - s) HS.out HT.out (by have := HM.out; omega) (by have := HB.out; have := HNN.out; omega) (fun h1 h2 => by
          have := HLo.out (s - 1) (by have := HB.out; have := HNN.out; have := HLH.out; omega) (by omega)
          rw [show s - 1 - a = s - a - 1 by omega, show mid - 1 - (s - 1) = mid - s by omega] at this
          exact this) (fun h1 h2 => by
          have := HHi.out s (Nat.le_refl _) (by have := HM.out; have := HLH.out; omega)
          rw [show mid - 1 - s = mid - s - 1 by omega] at this
          exact this))
        clear HLo HHi hE
        go_upto_region 39 with (fail)
        obtain ⟨P, hP⟩ : ∃ P, P = S.take (s - a) := ⟨_, rfl⟩
        obtain ⟨U, hU⟩ : ∃ U, U = S.drop (s - a) := ⟨_, rfl⟩
        obtain ⟨V, hV⟩ : ∃ V, V = T.take (mid - s) := ⟨_, rfl⟩
        obtain ⟨Q, hQ⟩ : ∃ Q, Q = T.drop (mid - s) := ⟨_, rfl⟩
        have hSe : P ++ U = S := by rw [hP, hU, List.take_append_drop]
        have hTe : V ++ Q = T := by rw [hV, hQ, List.take_append_drop]
        have HPl := Aside0.mk (show P.length = s - a by have := HM.out; rw [hP, List.length_take]; omega)
        have HUl := Aside0.mk (show U.length = m - s by have := HM.out; rw [hU, List.length_drop]; omega)
        have HVl := Aside0.mk (show V.length = mid - s by have := HB.out; have := HNN.out; rw [hV, List.length_take]; omega)
        have HQl := Aside0.mk (show Q.length = b - E by have := HB.out; have := HNN.out; have := HE.out; rw [hQ, List.length_drop]; omega)
        have HPU := Aside0.mk (show Srt (P ++ U) by rw [hSe]; exact HS.out)
        have HVQ := Aside0.mk (show Srt (V ++ Q) by rw [hTe]; exact HT.out)
        have HST := Aside0.mk (show S ++ T = P ++ U ++ (V ++ Q) by rw [hSe, hTe])
        have HNl := Aside0.mk (show n = A.length + P.length + U.length + V.length + Q.length + C.length by rw [HN.out, ← hSe, ← hTe]; simp only [List.length_append]; omega)
        rw [← hP, ← hU, ← hV, ← hQ] at HP
        rw [← hSe, ← hTe] at HRr
        clear hP hU hV hQ hSe hTe
        go_cut [185] (fun tv wc => ∃ cc : Bool, tv = .bool cc ∧ (cc = true ↔ 0 < U.length ∧ 0 < V.length) ∧ wc = wr)
        case first =>
          as_aux_lemma =>
          by_cases hu : s < m
          · have t1 : decide ((s : Int) < (m : Int)) = true := decide_eq_true (by omega)
            have t1b : decide (s < m) = true := decide_eq_true hu
            by_cases hv : m < E
            · have t2 : decide ((m : Int) < (E : Int)) = true := decide_eq_true (by omega)
              have t2b : decide (m < E) = true := decide_eq_true hv
              go_wp2
              go_meet
              case rel => exact ⟨true, rfl, ⟨fun _ => ⟨by have := HUl.out; have := HVl.out; have := HE.out; have := HNN.out; omega, by have := HUl.out; have := HVl.out; have := HE.out; have := HNN.out; omega⟩, fun _ => rfl⟩, rfl⟩
            · have t2 : decide ((m : Int) < (E : Int)) = false := decide_eq_false (by omega)
              have t2b : decide (m < E) = false := decide_eq_false hv
              go_wp2
              go_meet
              case rel => exact ⟨false, rfl, ⟨fun h => (by cases h), fun h => by have := HUl.out; have := HVl.out; have := HE.out; have := HNN.out; have := h.1; have := h.2; omega⟩, rfl⟩
          · have t1 : decide ((s : Int) < (m : Int)) = false := decide_eq_false (by omega)
            have t1b : decide (s < m) = false := decide_eq_false hu
            go_wp2
            go_meet
            case rel => exact ⟨false, rfl, ⟨fun h => (by cases h), fun h => by have := HUl.out; have := HVl.out; have := HE.out; have := HNN.out; have := h.1; have := h.2; omega⟩, rfl⟩
        case rest =>
          as_aux_lemma =>
          obtain ⟨cc, h1, hcc, hw⟩ := hcut
          subst h1 hw
          have HCC := Aside0.mk hcc
          clear hcc
          go_upto_if 185 with (fail)
          go_cut [] (fun wc => Aside0 (Reg wc g pre post (A ++ (P ++ V) ++ (U ++ Q) ++ C)) ∧ Aside0 (Chg (fun b => b = g) w wc))
          case first =>
            as_aux_lemma =>
            cases cc
            · have ha1 : ¬ (0 < U.length ∧ 0 < V.length) := fun h => by cases HCC.out.2 h
              go_wp2
              go_meet
              case rel =>
                refine ⟨⟨?_⟩, HC⟩
                have := HRr.out
                rcases List.eq_nil_or_concat U with h | ⟨_, _, h⟩
                · rw [h] at this ⊢; simp only [List.append_assoc, List.nil_append] at this ⊢; exact this
                · rcases List.eq_nil_or_concat V with h2 | ⟨_, _, h2⟩
                  · rw [h2] at this ⊢; simp only [List.append_assoc, List.nil_append] at this ⊢; exact this
                  · exact absurd ⟨by rw [h]; simp, by rw [h2]; simp⟩ ha1
            · have ha1 : 0 < U.length ∧ 0 < V.length := HCC.out.1 rfl
              have HCall := Aside0.mk (RotP _ g pre post (A ++ P) U V (Q ++ C) c (by have := HRr.out; simp only [List.append_assoc] at this ⊢; exact this) ha1.1 ha1.2 n (by rw [HNl.out]; simp only [List.length_append]; omega) hn5 off HF.out s m E (by have := HA.out; have := HPl.out; simp only [List.length_append]; omega) (by have := HA.out; have := HPl.out; have := HUl.out; simp only [List.length_append]; omega) (by have := HA.out; have := HPl.out; have := HUl.out; have := HVl.out; have := HNN.out; have := HE.out; simp only [List.length_append]; omega))
              go_wp2_with (first | (go_at_call 196; go_must (refine HCall.out.mono ?_; rintro e w2 ⟨rfl, p1, p2⟩; have HC1 := Aside0.mk (HC.out.trans p1 (fun _ _ h => h)); have HR1 := Aside0.mk (show Reg w2 g pre post (A ++ (P ++ V) ++ (U ++ Q) ++ C) by simp only [List.append_assoc] at p2 ⊢; exact p2); clear p1 p2 HC HRr)))
              go_meet
              case rel => exact ⟨HR1, HC1⟩
          case rest =>
            as_aux_lemma =>
            obtain ⟨HR1, HC1⟩ := hcut
            clear HRr HC HCC
            go_upto_region 41 with (fail)
            go_cut [199] (fun tv wd => ∃ cc : Bool, tv = .bool cc ∧ (cc = true ↔ 0 < P.length ∧ 0 < V.length) ∧ wd = wc)
            case first =>
              as_aux_lemma =>
              by_cases hu : a < s
              · have t1 : decide ((a : Int) < (s : Int)) = true := decide_eq_true (by omega)
                have t1b : decide (a < s) = true := decide_eq_true hu
                by_cases hv : s < mid
                · have t2 : decide ((s : Int) < (mid : Int)) = true := decide_eq_true (by omega)
                  have t2b : decide (s < mid) = true := decide_eq_true hv
                  go_wp2
                  go_meet
                  case rel => exact ⟨true, rfl, ⟨fun _ => ⟨by have := HPl.out; have := HVl.out; omega, by have := HPl.out; have := HVl.out; omega⟩, fun _ => rfl⟩, rfl⟩
                · have t2 : decide ((s : Int) < (mid : Int)) = false := decide_eq_false (by omega)
                  have t2b : decide (s < mid) = false := decide_eq_false hv
                  go_wp2
                  go_meet
                  case rel => exact ⟨false, rfl, ⟨fun h => (by cases h), fun h => by have := HPl.out; have := HVl.out; have := h.1; have := h.2; omega⟩, rfl⟩
              · have t1 : decide ((a : Int) < (s : Int)) = false := decide_eq_false (by omega)
                have t1b : decide (a < s) = false := decide_eq_false hu
                go_wp2
                go_meet
                case rel => exact ⟨false, rfl, ⟨fun h => (by cases h), fun h => by have := HPl.out; have := HVl.out; have := h.1; have := h.2; omega⟩, rfl⟩
            case rest =>
              as_aux_lemma =>
              obtain ⟨cc, h1, hcc, hw⟩ := hcut
              subst h1 hw
              have HCC := Aside0.mk hcc
              clear hcc
              go_upto_if 199 with (fail)
              go_cut [] (fun wd => ∃ X, Aside0 (Srt X ∧ Sw (P ++ V) X) ∧ Aside0 (X.length = P.length + V.length) ∧ Aside0 (Reg wd g pre post (A ++ X ++ (U ++ Q) ++ C)) ∧ Aside0 (Chg (fun b => b = g) w wd))
              case first =>
                as_aux_lemma =>
                cases cc
                · have hp0 : ¬ (0 < P.length ∧ 0 < V.length) := fun h => by cases HCC.out.2 h
                  obtain ⟨X, hXe⟩ : ∃ X, X = P ++ V := ⟨_, rfl⟩
                  have HX := Aside0.mk (show Srt X ∧ Sw (P ++ V) X by
                    rw [hXe]
                    refine ⟨?_, Sw.refl _⟩
                    rcases List.eq_nil_or_concat P with h | ⟨_, _, h⟩
                    · rw [h]; exact srt_left HVQ.out
                    · rcases List.eq_nil_or_concat V with h2 | ⟨_, _, h2⟩
                      · rw [h2, List.append_nil]; exact srt_left HPU.out
                      · exact absurd ⟨by rw [h]; simp, by rw [h2]; simp⟩ hp0)
                  have HXl := Aside0.mk (show X.length = P.length + V.length by rw [hXe]; simp)
                  rw [← hXe] at HR1
                  clear hXe
                  go_wp2
                  go_meet
                  case rel => exact ⟨X, HX, HXl, HR1, HC1⟩
                · have hp0 : 0 < P.length ∧ 0 < V.length := HCC.out.1 rfl
                  have HCall2 := Aside0.mk (HIH.out _ A P V (U ++ Q ++ C) a s mid (G_chg HG.out HC1.out (fun k hk e => by omega)) (srt_left HPU.out) (srt_left HVQ.out) hp0.1 hp0.2 (by have := HL.out; have := HPl.out; have := HVl.out; have := HB.out; have := HM.out; omega) (by have := HR1.out; simp only [List.append_assoc] at this ⊢; exact this) (by have := HNl.out; have := HPl.out; have := HUl.out; have := HVl.out; have := HQl.out; simp only [List.length_append]; omega) HA.out (by have := HPl.out; omega) (by have := HVl.out; omega))
                  go_wp2_with (first | (go_at_call 195; go_must (refine HCall2.out.mono ?_; rintro e w4 ⟨rfl, p1, X, p2, p3, p4⟩; have HC3 := Aside0.mk (HC1.out.trans p1 (fun _ _ h => h)); have HR3 := Aside0.mk (show Reg w4 g pre post (A ++ X ++ (U ++ Q) ++ C) by simp only [List.append_assoc] at p2 ⊢; exact p2); have HXl := Aside0.mk (show X.length = P.length + V.length by rw [← p4.length]; simp); have HX := Aside0.mk (And.intro p3 p4); clear p1 p2 p3 p4 HR1 HC1)))
                  go_meet
                  case rel => exact ⟨X, HX, HXl, HR3, HC3⟩
              case rest =>
                as_aux_lemma =>
                obtain ⟨X, HX, HXl, HR3, HC3⟩ := hcut
                clear HR1 HC1 HCC
                go_upto_region 43 with (fail)
                by_cases hu0 : 0 < U.length ∧ 0 < Q.length
                · have t5 : decide ((mid : Int) < (E : Int)) = true := decide_eq_true (by have := HNN.out; have := HE.out; have := HUl.out; omega)
                  have t5b : decide (mid < E) = true := decide_eq_true (by have := HNN.out; have := HE.out; have := HUl.out; omega)
                  have t6 : decide ((E : Int) < (b : Int)) = true := decide_eq_true (by have := HNN.out; have := HE.out; have := HQl.out; have := HB.out; omega)
                  have t6b : decide (E < b) = true := decide_eq_true (by have := HNN.out; have := HE.out; have := HQl.out; have := HB.out; omega)
                  have HCall3 := Aside0.mk (HIH.out _ (A ++ X) U Q C mid E b (G_chg HG.out HC3.out (fun k hk e => by omega)) (srt_right HPU.out) (srt_right HVQ.out) hu0.1 hu0.2 (by have := HL.out; have := HUl.out; have := HQl.out; have := HB.out; have := HM.out; omega) (by have := HR3.out; simp only [List.append_assoc] at this ⊢; exact this) (by have := HNl.out; have := HXl.out; have := HPl.out; have := HUl.out; have := HVl.out; have := HQl.out; simp only [List.length_append]; omega) (by have := HXl.out; have := HPl.out; have := HVl.out; have := HA.out; simp only [List.length_append]; omega) (by have := HNN.out; have := HE.out; have := HUl.out; omega) (by have := HNN.out; have := HE.out; have := HQl.out; have := HB.out; omega))
                  go_wp2_with (first | (go_at_call 195; go_must (refine HCall3.out.mono ?_; rintro e w5 ⟨rfl, p1, Y, p2, p3, p4⟩; have C5 := Aside0.mk (HC3.out.trans p1 (fun _ _ h => h)); have R5 := Aside0.mk p2; have Y5 := Aside0.mk (And.intro p3 p4); clear p1 p2 p3 p4)))
                  go_end0
                  have hv := halves (X := X) (Y := Y) HPU.out HVQ.out HP.out.1 HP.out.2 HX.out.1 HX.out.2 Y5.out.1 Y5.out.2
                  exact ⟨rfl, C5.out, X ++ Y, by have := R5.out; simp only [List.append_assoc] at this ⊢; exact this, hv.1, by rw [HST.out]; exact hv.2⟩
                · have HY := Aside0.mk (show Srt (U ++ Q) by
                    rcases List.eq_nil_or_concat U with h | ⟨_, _, h⟩
                    · rw [h]; exact srt_right HVQ.out
                    · rcases List.eq_nil_or_concat Q with h2 | ⟨_, _, h2⟩
                      · rw [h2, List.append_nil]; exact srt_right HPU.out
                      · exact absurd ⟨by rw [h]; simp, by rw [h2]; simp⟩ hu0)
                  by_cases hu1 : 0 < U.length
                  · have t5 : decide ((mid : Int) < (E : Int)) = true := decide_eq_true (by have := HNN.out; have := HE.out; have := HUl.out; omega)
                    have t5b : decide (mid < E) = true := decide_eq_true (by have := HNN.out; have := HE.out; have := HUl.out; omega)
                    have t6 : decide ((E : Int) < (b : Int)) = false := decide_eq_false (by have := HNN.out; have := HE.out; have := HQl.out; have := HB.out; omega)
                    have t6b : decide (E < b) = false := decide_eq_false (by have := HNN.out; have := HE.out; have := HQl.out; have := HB.out; omega)
                    go_wp2
                    go_end0
                    have hv := halves (X := X) (Y := U ++ Q) HPU.out HVQ.out HP.out.1 HP.out.2 HX.out.1 HX.out.2 HY.out (Sw.refl _)
                    exact ⟨rfl, HC3.out, X ++ (U ++ Q), by have := HR3.out; simp only [List.append_assoc] at this ⊢; exact this, hv.1, by rw [HST.out]; exact hv.2⟩
                  · have t5 : decide ((mid : Int) < (E : Int)) = false := decide_eq_false (by have := HNN.out; have := HE.out; have := HUl.out; omega)
                    have t5b : decide (mid < E) = false := decide_eq_false (by have := HNN.out; have := HE.out; have := HUl.out; omega)
                    go_wp2
                    go_end0
                    have hv := halves (X := X) (Y := U ++ Q) HPU.out HVQ.out HP.out.1 HP.out.2 HX.out.1 HX.out.2 HY.out (Sw.refl _)
                    exact ⟨rfl, HC3.out, X ++ (U ++ Q), by have := HR3.out; simp only [List.append_assoc] at this ⊢; exact this, hv.1, by rw [HST.out]; exact hv.2⟩
end Go.Proofs.YtdambnclbpipdaaGreatDoor.Nt
namespace Go.Proofs.YtdambnclbpipdaaGreatDoor.Nw
set_option linter.unusedVariables false
set_option linter.unusedSimpArgs false
open Go.RowKit Go.Proofs.YtdambnclbpipdaaGreatDoorW.PrintWords Go.Proofs.YtdambnclbpipdaaGreatDoor.Hp Go.Proofs.YtdambnclbpipdaaGreatDoor.Va Go.Proofs.YtdambnclbpipdaaGreatDoor.Na Go.Proofs.YtdambnclbpipdaaGreatDoor.Nb Go.Proofs.YtdambnclbpipdaaGreatDoor.Nc Go.Proofs.YtdambnclbpipdaaGreatDoor.Nd Go.Proofs.YtdambnclbpipdaaGreatDoor.Nr Go.Proofs.YtdambnclbpipdaaGreatDoor.Ns Go.Proofs.YtdambnclbpipdaaGreatDoor.Nt
theorem MrgP (g : Nat) (hg : 3 ≤ g) (pre post : List Value) (n c off : Nat) (hn5 : n ≤ 1000000000000000) (hoff : off = pre.length) : ∀ L, Merges off n c g pre post L
  | 0 => fun w A S T C a m b hG hS hT h1 h2 h3 => by omega
  | L + 1 => fun w A S T C a m b hG hS hT h1 h2 h3 hR hn ha hm hb => by
    match S, h1 with
    | [x], _ =>
      exact MrgL w hG g hg pre post A T C x c hT h2 hR n hn hn5 off hoff a m b ha (by simpa using hm) hb
    | x :: y :: S', _ =>
      match T, h2 with
      | [z], _ =>
        exact MrgR w hG g hg pre post A (x :: y :: S') C z c hS (by simp) hR n hn hn5 off hoff a m b ha hm (by simpa using hb)
      | z :: u :: T', _ =>
        have h1 : 1 < (x :: y :: S').length := by simp
        have h2 : 1 < (z :: u :: T').length := by simp
        by_cases hc : (a + b) / 2 < m
        · exact MrgG g hg pre post n c off L hn5 hoff (MrgP g hg pre post n c off hn5 hoff L) w hG A _ _ C hS hT h1 h2 h3 hR hn a m b ha hm hb _ rfl _ _ (.inl ⟨hc, rfl, rfl⟩)
        · exact MrgG g hg pre post n c off L hn5 hoff (MrgP g hg pre post n c off hn5 hoff L) w hG A _ _ C hS hT h1 h2 h3 hR hn a m b ha hm hb _ rfl _ _ (.inr ⟨by omega, rfl, rfl⟩)
def Full (B : Nat) (A : List Int) : Prop := ∃ cs : List (List Int), A = cs.flatten ∧ ∀ c ∈ cs, c.length = B ∧ Srt c
def Bs (B : Nat) (R : List Int) : Prop := ∃ (cs : List (List Int)) (t : List Int), R = cs.flatten ++ t ∧ (∀ c ∈ cs, c.length = B ∧ Srt c) ∧ t.length < B ∧ Srt t
theorem Full.nil (B : Nat) : Full B [] := ⟨[], rfl, fun _ h => by cases h⟩
theorem Full.snoc {B : Nat} {A c : List Int} (h : Full B A) (hc : c.length = B) (hs : Srt c) : Full B (A ++ c) := by
  obtain ⟨cs, rfl, h⟩ := h
  refine ⟨cs ++ [c], by simp, fun d hd => ?_⟩
  rcases List.mem_append.1 hd with hd | hd
  · exact h d hd
  · rw [List.mem_singleton.1 hd]; exact ⟨hc, hs⟩
theorem Full.bs {B : Nat} {A t : List Int} (h : Full B A) (hc : t.length < B) (hs : Srt t) : Bs B (A ++ t) := by
  obtain ⟨cs, rfl, h⟩ := h
  exact ⟨cs, t, rfl, h, hc, hs⟩
theorem Bs.two {B : Nat} {R : List Int} (h : Bs B R) (hl : 2 * B ≤ R.length) : ∃ S T R', R = S ++ T ++ R' ∧ S.length = B ∧ T.length = B ∧ Srt S ∧ Srt T ∧ Bs B R' := by
  obtain ⟨cs, t, rfl, h, h1, h2⟩ := h
  match cs, h, hl with
  | [], _, hl => simp only [List.flatten_nil, List.nil_append] at hl; omega
  | [c], h, hl =>
    have := (h c (by simp)).1
    simp only [List.flatten_cons, List.flatten_nil, List.append_nil, List.length_append] at hl
    omega
  | c :: d :: cs, h, _ =>
    exact ⟨c, d, cs.flatten ++ t, by simp, (h c (by simp)).1, (h d (by simp)).1, (h c (by simp)).2, (h d (by simp)).2, cs, t, rfl, fun e he => h e (by simp [he]), h1, h2⟩
theorem Bs.rest {B : Nat} {R : List Int} (h : Bs B R) (hl : R.length < 2 * B) : (R.length ≤ B ∧ Srt R) ∨ ∃ S T, R = S ++ T ∧ S.length = B ∧ 0 < T.length ∧ Srt S ∧ Srt T := by
  obtain ⟨cs, t, rfl, h, h1, h2⟩ := h
  match cs, h, hl with
  | [], _, _ => exact .inl ⟨by simp only [List.flatten_nil, List.nil_append]; omega, by simpa using h2⟩
  | [c], h, _ =>
    have hc := h c (by simp)
    rcases Nat.eq_zero_or_pos t.length with ht | ht
    · rw [List.eq_nil_of_length_eq_zero ht]
      exact .inl ⟨by simp [hc.1], by simpa using hc.2⟩
    · exact .inr ⟨c, t, by simp, hc.1, ht, hc.2, h2⟩
  | c :: d :: cs, h, hl =>
    have := (h c (by simp)).1
    have := (h d (by simp)).1
    simp only [List.flatten_cons, List.length_append] at hl
    omega
def SrtPost (w : World) (g : Nat) (pre post : List Value) (l : List Int) (e : Ending) (w' : World) : Prop :=
  e = .returned (.tuple #[]) ∧ Chg (fun b => b = g) w w' ∧ ∃ S, Reg w' g pre post S ∧ Srt S ∧ Sw l S
set_option maxRecDepth 100000 in
set_option maxHeartbeats 8000000 in
theorem StbP (w : World) (hG : G w) (g : Nat) (hg : 3 ≤ g) (pre post : List Value) (l : List Int) (hR : Reg w g pre post l) (n c off : Nat) (hn : n = l.length) (hn5 : n ≤ 1000000000000000) (hoff : off = pre.length) :
    Calls Tryz.prog 188 #[.slice (some ⟨g, off, none⟩) n c, .int .i64 (n : Int), .func (.func 178) #[] #[]] w (SrtPost w g pre post l) := by
  have HG := Aside0.mk hG
  have HR := Aside0.mk hR
  have HF := Aside0.mk hoff
  have HN := Aside0.mk hn
  clear hG hR hn hoff
  go_enter Tryz.func188, Tryz.ntmps188
  go_wp2
  go_loopw [7, 8] (fun av bv wr => ∃ (a b : Nat) (A R : List Int), av = .int .i64 a ∧ bv = .int .i64 b ∧ b = a + 20 ∧ a ≤ n ∧ Aside0 (a = A.length) ∧ Aside0 (Full 20 A) ∧ Aside0 (n = A.length + R.length) ∧ Aside0 (Reg wr g pre post (A ++ R)) ∧ Aside0 (Sw l (A ++ R)) ∧ Aside0 (Chg (fun b => b = g) w wr)) (fun av _ _ => n - (intOf av).toNat)
  case atStart => exact ⟨0, 20, [], l, rfl, rfl, rfl, Nat.zero_le _, ⟨rfl⟩, ⟨Full.nil _⟩, ⟨by rw [HN.out]; simp⟩, HR, ⟨Sw.refl _⟩, ⟨Chg.refl _ _⟩⟩
  case round =>
    obtain ⟨a, b, A, R, rfl, rfl, hb, han, HA, HFu, HNl, HRr, HSw, HC⟩ := hrel
    have HB := Aside0.mk hb
    clear hb
    by_cases hlt : b ≤ n
    · have hd : decide ((b : Int) ≤ (n : Int)) = true := decide_eq_true (by omega)
      have hd2 : decide (b ≤ n) = true := decide_eq_true hlt
      have HCall := Aside0.mk (InsP wr (G_chg HG.out HC.out (fun k hk e => by omega)) g hg pre post A (R.take 20) (R.drop 20) c (by have := HRr.out; rw [List.append_assoc, List.take_append_drop]; exact this) n (by rw [HNl.out]; have := HB.out; simp only [List.length_append, List.length_take, List.length_drop]; omega) hn5 off HF.out a b HA.out (by have := HNl.out; have := HA.out; have := HB.out; simp only [List.length_take]; omega))
      go_wp2_with (first | (go_at_call 194; go_must (refine HCall.out.mono ?_; rintro e w2 ⟨rfl, p1, X, p2, p3, p4⟩; have HC1 := Aside0.mk (HC.out.trans p1 (fun _ _ h => h)); have HR1 := Aside0.mk p2; have HX := Aside0.mk (And.intro p3 p4); clear p1 p2 p3 p4 HC HRr)))
      go_roundw
      case rel =>
        have := HNl.out
        have := HA.out
        have := HB.out
        have hxl : X.length = 20 := by rw [← HX.out.2.length, List.length_take]; omega
        exact ⟨b, b + 20, A ++ X, R.drop 20, rfl, by go_num, rfl, hlt, ⟨by rw [List.length_append]; omega⟩, ⟨HFu.out.snoc hxl HX.out.1⟩, ⟨by simp only [List.length_append, List.length_drop]; omega⟩, HR1, ⟨HSw.out.trans (by have h := ((Sw.refl A).append HX.out.2).append (Sw.refl (R.drop 20)); rw [List.append_assoc A (R.take 20), List.take_append_drop] at h; exact h)⟩, HC1⟩
      case measure => have := HB.out; simp [intOf] <;> omega
    · have hd : decide ((b : Int) ≤ (n : Int)) = false := decide_eq_false (by omega)
      have hd2 : decide (b ≤ n) = false := decide_eq_false hlt
      have HCall := Aside0.mk (InsP wr (G_chg HG.out HC.out (fun k hk e => by omega)) g hg pre post A R [] c (by have := HRr.out; rw [List.append_nil]; exact this) n (by rw [HNl.out]; simp only [List.length_append, List.length_nil]; omega) hn5 off HF.out a n HA.out HNl.out)
      go_wp2_with (first | (go_at_call 194; go_must (refine HCall.out.mono ?_; rintro e w2 ⟨rfl, p1, X, p2, p3, p4⟩; have HC1 := Aside0.mk (HC.out.trans p1 (fun _ _ h => h)); have HR1 := Aside0.mk p2; have HX := Aside0.mk (And.intro p3 p4); clear p1 p2 p3 p4 HC HRr)))
      have HBs : Aside0 (Bs 20 (A ++ X)) := ⟨HFu.out.bs (by have := HX.out.2.length; have := HNl.out; have := HA.out; have := HB.out; omega) HX.out.1⟩
      have HR2 : Aside0 (Reg w2 g pre post (A ++ X)) := ⟨by have := HR1.out; rw [List.append_nil] at this; exact this⟩
      have HS2 : Aside0 (Sw l (A ++ X)) := ⟨HSw.out.trans ((Sw.refl A).append HX.out.2)⟩
      obtain ⟨L, hL⟩ : ∃ L, L = A ++ X := ⟨_, rfl⟩
      rw [← hL] at HBs HR2 HS2
      clear hL HR1 HX HSw HNl HFu HA HB HCall hd hd2 hlt
      go_loopw [6] (fun Bv wr => ∃ (B : Nat) (L : List Int), Bv = .int .i64 B ∧ 20 ≤ B ∧ B ≤ 2 * n + 20 ∧ Aside0 (Bs B L) ∧ Aside0 (Reg wr g pre post L) ∧ Aside0 (Sw l L) ∧ Aside0 (Chg (fun b => b = g) w wr)) (fun Bv _ => n - (intOf Bv).toNat)
      case atStart => exact ⟨20, L, rfl, Nat.le_refl _, by omega, HBs, HR2, HS2, HC1⟩
      case round =>
        clear HBs HR2 HS2 HC1
        obtain ⟨B, M, rfl, hB1, hB2, HBs, HR2, HS2, HC1⟩ := hrel
        have HNM := Aside0.mk (show n = M.length by rw [HN.out]; exact HS2.out.length)
        by_cases hBn : B < n
        · have hd : decide ((B : Int) < (n : Int)) = true := decide_eq_true (by omega)
          have hd2 : decide (B < n) = true := decide_eq_true hBn
          obtain ⟨D, hD⟩ : ∃ D, D = 2 * B := ⟨_, rfl⟩
          have eD : (2 : Int) * (B : Int) = (D : Int) := by omega
          have HD := Aside0.mk hD
          have hDn : D ≤ 2 * n := by omega
          clear hD
          go_wp2
          go_loopw [7, 8] (fun av bv wr => ∃ (a b : Nat) (A R : List Int), av = .int .i64 a ∧ bv = .int .i64 b ∧ b = a + D ∧ a ≤ n ∧ Aside0 (a = A.length) ∧ Aside0 (Full D A) ∧ Aside0 (Bs B R) ∧ Aside0 (n = A.length + R.length) ∧ Aside0 (Reg wr g pre post (A ++ R)) ∧ Aside0 (Sw l (A ++ R)) ∧ Aside0 (Chg (fun b => b = g) w wr)) (fun av _ _ => n - (intOf av).toNat)
          case atStart => exact ⟨0, D, [], M, rfl, rfl, by omega, Nat.zero_le _, ⟨rfl⟩, ⟨Full.nil _⟩, HBs, ⟨by rw [HNM.out]; simp⟩, HR2, HS2, HC1⟩
          case round =>
            clear HBs HR2 HS2 HC1 HNM
            obtain ⟨a, b, A, R, rfl, rfl, hb, han, HA, HFu, HBs, HNl, HRr, HSw, HC⟩ := hrel
            obtain ⟨m, hm⟩ : ∃ m, m = a + B := ⟨_, rfl⟩
            have em : (a : Int) + (B : Int) = (m : Int) := by omega
            have HB := Aside0.mk hb
            clear hb
            by_cases hlt : b ≤ n
            · have hd : decide ((b : Int) ≤ (n : Int)) = true := decide_eq_true (by omega)
              have hd2 : decide (b ≤ n) = true := decide_eq_true hlt
              obtain ⟨S, T, R', hRe, hSl, hTl, hSs, hTs, hRb⟩ := HBs.out.two (by have := HNl.out; have := HA.out; have := HD.out; have := HB.out; omega)
              have HCall := Aside0.mk (MrgP g hg pre post n c off hn5 HF.out _ wr A S T R' a m b (G_chg HG.out HC.out (fun k hk e => by omega)) hSs hTs (by omega) (by omega) (Nat.le_refl _) (by have := HRr.out; rw [hRe] at this; simp only [List.append_assoc] at this ⊢; exact this) (by rw [HNl.out, hRe]; simp only [List.length_append]; omega) HA.out (by omega) (by have := HD.out; have := HB.out; omega))
              have HRe := Aside0.mk (And.intro hRe (And.intro hSl (And.intro hTl hRb)))
              clear hRe hSl hTl hSs hTs hRb hm
              go_wp2_with (first | (go_at_call 195; go_must (refine HCall.out.mono ?_; rintro e w2 ⟨rfl, p1, X, p2, p3, p4⟩; have HC1 := Aside0.mk (HC.out.trans p1 (fun _ _ h => h)); have HR1 := Aside0.mk p2; have HX := Aside0.mk (And.intro p3 p4); clear p1 p2 p3 p4 HC HRr)))
              go_roundw
              case rel =>
                have := HNl.out
                have := HA.out
                obtain ⟨hRe, hSl, hTl, hRb⟩ := HRe.out
                have hxl : X.length = D := by rw [← HX.out.2.length, List.length_append, HD.out]; omega
                have hrl : R.length = S.length + T.length + R'.length := by rw [hRe]; simp only [List.length_append]
                have := HD.out
                have := HB.out
                exact ⟨b, b + D, A ++ X, R', rfl, by go_num, rfl, hlt, ⟨by rw [List.length_append]; omega⟩, ⟨HFu.out.snoc hxl HX.out.1⟩, ⟨hRb⟩, ⟨by simp only [List.length_append]; omega⟩, HR1, ⟨HSw.out.trans (by have h := ((Sw.refl A).append HX.out.2).append (Sw.refl R'); rw [hRe]; simp only [List.append_assoc] at h ⊢; exact h)⟩, HC1⟩
              case measure => have := HB.out; have := HD.out; simp [intOf] <;> omega
            · have hd : decide ((b : Int) ≤ (n : Int)) = false := decide_eq_false (by omega)
              have hd2 : decide (b ≤ n) = false := decide_eq_false hlt
              rcases HBs.out.rest (by have := HNl.out; have := HA.out; have := HD.out; have := HB.out; omega) with ⟨hRl, hRs⟩ | ⟨S, T, hRe, hSl, hTl, hSs, hTs⟩
              · have hq : decide ((m : Int) < (n : Int)) = false := decide_eq_false (by have := HNl.out; have := HA.out; omega)
                have hq2 : decide (m < n) = false := decide_eq_false (by have := HNl.out; have := HA.out; omega)
                have HX := Aside0.mk (And.intro hRl hRs)
                clear hRl hRs hm
                go_wp2
                go_roundw
                case rel => exact ⟨D, A ++ R, by rw [Int.mul_comm, eD], by have := HD.out; omega, by omega, ⟨HFu.out.bs (by have := HX.out.1; have := HD.out; omega) HX.out.2⟩, HRr, HSw, HC⟩
                case measure => simp [intOf] <;> (have := HD.out; omega)
              · have hrl : R.length = S.length + T.length := by rw [hRe]; simp only [List.length_append]
                have hq : decide ((m : Int) < (n : Int)) = true := decide_eq_true (by have := HNl.out; have := HA.out; omega)
                have hq2 : decide (m < n) = true := decide_eq_true (by have := HNl.out; have := HA.out; omega)
                have HCall := Aside0.mk (MrgP g hg pre post n c off hn5 HF.out _ wr A S T [] a m n (G_chg HG.out HC.out (fun k hk e => by omega)) hSs hTs (by omega) hTl (Nat.le_refl _) (by have := HRr.out; rw [hRe] at this; simp only [List.append_assoc, List.append_nil] at this ⊢; exact this) (by rw [HNl.out, hRe]; simp only [List.length_append, List.length_nil]; omega) HA.out (by omega) (by have := HNl.out; have := HA.out; omega))
                have HRe := Aside0.mk (And.intro hRe hrl)
                clear hRe hSl hTl hSs hTs hm hrl
                go_wp2_with (first | (go_at_call 195; go_must (refine HCall.out.mono ?_; rintro e w2 ⟨rfl, p1, X, p2, p3, p4⟩; have HC1 := Aside0.mk (HC.out.trans p1 (fun _ _ h => h)); have HR1 := Aside0.mk p2; have HX := Aside0.mk (And.intro p3 p4); clear p1 p2 p3 p4 HC HRr)))
                go_roundw
                case rel =>
                  have := HNl.out
                  have := HA.out
                  obtain ⟨hRe, hrl⟩ := HRe.out
                  have hxl : X.length = R.length := by rw [← HX.out.2.length, hRe]
                  exact ⟨D, A ++ X, by rw [Int.mul_comm, eD], by have := HD.out; omega, by omega, ⟨HFu.out.bs (by have := HD.out; have := HB.out; omega) HX.out.1⟩, ⟨by have := HR1.out; rw [List.append_nil] at this; exact this⟩, ⟨HSw.out.trans (by rw [hRe]; exact (Sw.refl A).append HX.out.2)⟩, HC1⟩
                case measure => simp [intOf] <;> (have := HD.out; omega)
        · have hd : decide ((B : Int) < (n : Int)) = false := decide_eq_false (by omega)
          have hd2 : decide (B < n) = false := decide_eq_false hBn
          go_wp2
          go_end0
          refine ⟨rfl, HC1.out, M, HR2.out, ?_, HS2.out⟩
          rcases HBs.out.rest (by have := HNM.out; omega) with ⟨_, h⟩ | ⟨S, T, hRe, hSl, hTl, _, _⟩
          · exact h
          · have := HNM.out
            rw [hRe, List.length_append] at this
            omega
set_option maxRecDepth 100000 in
theorem SortP (w : World) (hG : G w) (g : Nat) (hg : 3 ≤ g) (pre post : List Value) (l : List Int) (hR : Reg w g pre post l) (n c off : Nat) (hn : n = l.length) (hn5 : n ≤ 1000000000000000) (hoff : off = pre.length) :
    Calls Tryz.prog 177 #[.slice (some ⟨g, off, none⟩) n c, .func (.func 178) #[] #[]] w (SrtPost w g pre post l) := by
  have HCall := Aside0.mk (StbP w hG g hg pre post l hR n c off hn hn5 hoff)
  clear hG hR hn hoff
  go_enter Tryz.func177, Tryz.ntmps177
  go_wp2_with (first | (go_at_call 188; go_must (refine HCall.out.mono ?_; rintro e w2 ⟨rfl, p1, X, p2, p3, p4⟩; have HC1 := Aside0.mk p1; have HR1 := Aside0.mk p2; have HX := Aside0.mk (And.intro p3 p4); clear p1 p2 p3 p4)))
  go_end0
  exact ⟨rfl, HC1.out, X, HR1.out, HX.out.1, HX.out.2⟩
end Go.Proofs.YtdambnclbpipdaaGreatDoor.Nw
namespace Go.Proofs.YtdambnclbpipdaaGreatDoor.Ng
set_option linter.unusedVariables false
set_option linter.unusedSimpArgs false
open Go.RowKit Go.Proofs.YtdambnclbpipdaaGreatDoorW.PrintWords Go.Proofs.YtdambnclbpipdaaGreatDoor.Hp Go.Proofs.YtdambnclbpipdaaGreatDoor.Va Go.Proofs.YtdambnclbpipdaaGreatDoor.Na Go.Proofs.YtdambnclbpipdaaGreatDoor.Nb Go.Proofs.YtdambnclbpipdaaGreatDoor.Nc Go.Proofs.YtdambnclbpipdaaGreatDoor.Nd Go.Proofs.YtdambnclbpipdaaGreatDoor.Nr Go.Proofs.YtdambnclbpipdaaGreatDoor.Ns Go.Proofs.YtdambnclbpipdaaGreatDoor.Nw
theorem nums_app (k : IntKind) (a b : List Int) : nums k (a ++ b) = nums k a ++ nums k b := by simp [nums]
theorem nums_len (k : IntKind) (a : List Int) : (nums k a).length = a.length := by simp [nums]
theorem Reg.mid {w : World} {g : Nat} {pre post : List Value} {P S Q : List Int} (h : Reg w g pre post (P ++ S ++ Q)) : Reg w g (pre ++ nums .i32 P) (nums .i32 Q ++ post) S := by
  unfold Reg at *
  rw [h, nums_app, nums_app]
  simp only [List.append_assoc]
theorem Reg.out {w : World} {g : Nat} {pre post : List Value} {P S Q : List Int} (h : Reg w g (pre ++ nums .i32 P) (nums .i32 Q ++ post) S) : Reg w g pre post (P ++ S ++ Q) := by
  unfold Reg at *
  rw [h, nums_app, nums_app]
  simp only [List.append_assoc]
theorem ordL_nil : ordL [] = [] := rfl
theorem run_step {l D R S : List Int} (k : Nat) (hl : ordL l = D ++ ordL R) (hk : ∀ x ∈ R.take k, cls x ≠ 0) (hS : Srt S) (hSw : Sw (R.take k) S) :
    (R.drop k = [] → ordL l = D ++ S ++ ordL []) ∧ (∀ z t, R.drop k = z :: t → cls z = 0 → ordL l = (D ++ S ++ [z]) ++ ordL t) := by
  have h1 : ordL (R.take k) = S := ordL_run hk hS hSw
  refine ⟨fun h => ?_, fun z t h hz => ?_⟩
  · rw [hl, ordL_nil, List.append_nil, ← h1, ← List.take_append_drop k R, h, List.append_nil, List.take_take, Nat.min_self]
  · have h2 : ordL R = ordL (R.take k) ++ z :: ordL t := by
      rw [← ordL_starter _ _ hz, ← h, List.take_append_drop]
    rw [hl, h2, h1]
    simp
set_option maxRecDepth 100000 in
set_option maxHeartbeats 4000000 in
theorem OrdP (w : World) (hG : G w) (g : Nat) (hg : 3 ≤ g) (post : List Value) (l : List Int) (hR : Reg w g [] post l) (n c : Nat) (hn : n = l.length) (hn5 : n ≤ 1000000000000000) (hcn : n ≤ c) :
    Calls Tryz.prog 150 #[.slice (some ⟨g, 0, none⟩) n c] w fun e w' => e = .returned (.slice (some ⟨g, 0, none⟩) n c) ∧ Chg (fun b => b = g) w w' ∧ Reg w' g [] post (ordL l) := by
  have HG := Aside0.mk hG
  have HR := Aside0.mk hR
  have HN := Aside0.mk hn
  clear hG hR hn
  go_enter Tryz.func150, Tryz.ntmps150
  go_wp2
  go_loopw [3] (fun fv wr => ∃ (f : Nat) (D R : List Int), fv = .int .i64 f ∧ f ≤ n + 1 ∧ Aside0 (f = D.length ∨ (R = [] ∧ D.length ≤ f)) ∧ Aside0 (n = D.length + R.length) ∧ Aside0 (ordL l = D ++ ordL R) ∧ Aside0 (Reg wr g [] post (D ++ R)) ∧ Aside0 (Chg (fun b => b = g) w wr)) (fun fv _ => n + 1 - (intOf fv).toNat)
  case atStart => exact ⟨0, [], l, rfl, Nat.zero_le _, ⟨.inl rfl⟩, ⟨by rw [HN.out]; simp⟩, ⟨by simp⟩, HR, ⟨Chg.refl _ _⟩⟩
  case round =>
    obtain ⟨f, D, R, rfl, hfn, HFd, HNl, HO, HRr, HC⟩ := hrel
    by_cases hlt : f < n
    · have hd : decide ((f : Int) < (n : Int)) = true := decide_eq_true (by omega)
      have hd2 : decide (f < n) = true := decide_eq_true hlt
      have HDl : Aside0 (f = D.length) := ⟨by
        rcases HFd.out with h | ⟨h1, h2⟩
        · exact h
        · have := HNl.out
          rw [h1] at this
          simp at this
          omega⟩
      clear HFd
      go_wp2
      go_loopw [4] (fun tv wr => ∃ (t : Nat), tv = .int .i64 t ∧ f ≤ t ∧ t ≤ n ∧ Aside0 (∀ x ∈ R.take (t - f), cls x ≠ 0) ∧ Aside0 (Reg wr g [] post (D ++ R)) ∧ Aside0 (Chg (fun b => b = g) w wr)) (fun tv _ => n - (intOf tv).toNat)
      case atStart => exact ⟨f, rfl, Nat.le_refl _, by omega, ⟨by rw [Nat.sub_self]; simp⟩, HRr, HC⟩
      case round =>
        clear HRr HC
        obtain ⟨t, rfl, hft, htn, HK, HR2, HC2⟩ := hrel
        by_cases htl : t < n
        · have hq : decide ((t : Int) < (n : Int)) = true := decide_eq_true (by omega)
          have hq2 : decide (t < n) = true := decide_eq_true htl
          have hj : (t : Int) < (n : Int) := by omega
          obtain ⟨x, hx1, hx2, hx3, -⟩ := split_at (S := R) (t := t - f) (by have := HNl.out; have := HDl.out; omega)
          have c1 := HR2.out
          rw [hx1, show D ++ (R.take (t - f) ++ x :: R.drop (t - f + 1)) = (D ++ R.take (t - f)) ++ x :: R.drop (t - f + 1) by simp] at c1
          have c1 := Reg.one c1 (off := 0) rfl (p := t) (by have := HDl.out; have := HNl.out; simp only [List.length_append, List.length_take]; omega)
          rw [Nat.zero_add] at c1
          have HX1 := Aside0.mk hx2
          have HX2 := Aside0.mk hx3
          clear hx1 hx2 hx3
          by_cases hc : cls x = 0
          · have hc2 : (cls x != 0) = false := by rw [hc]; rfl
            have hc3 : (cls x == 0) = true := by rw [hc]; rfl
            have HCx := Aside0.mk hc
            have HCl := Aside0.mk (ClassP wr (G_chg HG.out HC2.out (fun k hk e => by omega)) x)
            clear hc
            go_upto_region 6 with (first | (go_at_call 170; go_must (refine HCl.out.mono ?_; rintro e w2 ⟨rfl, p1⟩; have HC3 := Aside0.mk (HC2.out.then_below p1); have HR3 := Aside0.mk (HR2.out.below p1); clear p1 c1 HC2 HR2)))
            have HC2 := HC3
            have HR2 := HR3
            clear HC3 HR3
            have HCall := Aside0.mk (SortP _ (G_chg HG.out HC2.out (fun k hk e => by omega)) g hg (nums .i32 D) (nums .i32 (R.drop (t - f)) ++ post) (R.take (t - f)) (Reg.mid (pre := []) (by have := HR2.out; rw [List.append_assoc, List.take_append_drop]; exact this)) (t - f) (c - f) f (by have := HNl.out; have := HDl.out; rw [List.length_take]; omega) (by omega) (by rw [nums_len]; exact HDl.out))
            have i1 : ((t : Int) - (f : Int)) = ((t - f : Nat) : Int) := by omega
            go_wp2_with (first | (go_at_call 177; go_must (refine HCall.out.mono ?_; rintro e w3 ⟨rfl, p1, X, p2, p3, p4⟩; have HC3 := Aside0.mk (HC2.out.trans p1 (fun _ _ h => h)); have HR3 := Aside0.mk (Reg.out (pre := []) p2); have HX := Aside0.mk (And.intro p3 p4); clear p1 p2 p3 p4 HC2 HR2)))
            go_roundw
            case rel =>
              have h1 := HX2.out
              have := HNl.out
              have := HDl.out
              have hxl : X.length = t - f := by rw [← HX.out.2.length, List.length_take]; omega
              exact ⟨t + 1, D ++ X ++ [x], R.drop (t - f + 1), by go_num, by omega, ⟨.inl (by simp only [List.length_append, List.length_singleton]; omega)⟩, ⟨by simp only [List.length_append, List.length_singleton, List.length_drop]; omega⟩, ⟨(run_step (t - f) HO.out HK.out HX.out.1 HX.out.2).2 x _ HX1.out HCx.out⟩, ⟨by have := HR3.out; rw [HX1.out] at this; simp only [List.append_assoc, List.singleton_append] at this ⊢; exact this⟩, HC3⟩
            case measure => simp [intOf] <;> omega
          · have hc2 : (cls x != 0) = true := by simpa using hc
            have hc3 : (cls x == 0) = false := by simpa using hc
            have HCx := Aside0.mk hc
            have HCl := Aside0.mk (ClassP wr (G_chg HG.out HC2.out (fun k hk e => by omega)) x)
            clear hc
            go_wp2_with (first | (go_at_call 170; go_must (refine HCl.out.mono ?_; rintro e w2 ⟨rfl, p1⟩; have HC3 := Aside0.mk (HC2.out.then_below p1); have HR3 := Aside0.mk (HR2.out.below p1); clear p1 c1 HC2 HR2)))
            go_roundw
            case rel => exact ⟨t + 1, by go_num, by omega, by omega, ⟨by rw [show t + 1 - f = t - f + 1 by omega, HX2.out]; intro y hy; rcases List.mem_append.1 hy with hy | hy; (· exact HK.out y hy); (· rw [List.mem_singleton.1 hy]; exact HCx.out)⟩, HR3, HC3⟩
            case measure => simp [intOf] <;> omega
        · have hq : decide ((t : Int) < (n : Int)) = false := decide_eq_false (by omega)
          have hq2 : decide (t < n) = false := decide_eq_false htl
          have htn2 : t = n := by omega
          have HT := Aside0.mk htn2
          clear htn2
          go_upto_region 6 with (fail)
          have HCall := Aside0.mk (SortP _ (G_chg HG.out HC2.out (fun k hk e => by omega)) g hg (nums .i32 D) (nums .i32 (R.drop (t - f)) ++ post) (R.take (t - f)) (Reg.mid (pre := []) (by have := HR2.out; rw [List.append_assoc, List.take_append_drop]; exact this)) (t - f) (c - f) f (by have := HNl.out; have := HDl.out; rw [List.length_take]; omega) (by omega) (by rw [nums_len]; exact HDl.out))
          have i1 : ((t : Int) - (f : Int)) = ((t - f : Nat) : Int) := by omega
          go_wp2_with (first | (go_at_call 177; go_must (refine HCall.out.mono ?_; rintro e w3 ⟨rfl, p1, X, p2, p3, p4⟩; have HC3 := Aside0.mk (HC2.out.trans p1 (fun _ _ h => h)); have HR3 := Aside0.mk (Reg.out (pre := []) p2); have HX := Aside0.mk (And.intro p3 p4); clear p1 p2 p3 p4 HC2 HR2)))
          go_roundw
          case rel =>
            have := HNl.out
            have := HDl.out
            have := HT.out
            have hdr : R.drop (t - f) = [] := List.drop_eq_nil_of_le (by omega)
            have hxl : X.length = t - f := by rw [← HX.out.2.length, List.length_take]; omega
            exact ⟨t + 1, D ++ X, [], by go_num, by omega, ⟨.inr ⟨rfl, by simp only [List.length_append]; omega⟩⟩, ⟨by simp only [List.length_append, List.length_nil]; omega⟩, ⟨(run_step (t - f) HO.out HK.out HX.out.1 HX.out.2).1 hdr⟩, ⟨by have := HR3.out; rw [hdr] at this; exact this⟩, HC3⟩
          case measure => simp [intOf] <;> omega
    · have hd : decide ((f : Int) < (n : Int)) = false := decide_eq_false (by omega)
      have hd2 : decide (f < n) = false := decide_eq_false hlt
      go_wp2
      go_ret
      refine ⟨rfl, HC.out, ?_⟩
      have hr : R = [] := by
        rcases HFd.out with h | ⟨h1, h2⟩
        · have := HNl.out
          exact List.eq_nil_of_length_eq_zero (by omega)
        · exact h1
      have h1 := HO.out
      have h2 := HRr.out
      rw [hr] at h1 h2
      rw [h1]
      exact h2
set_option maxRecDepth 100000 in
theorem OrdN (w : World) : Calls Tryz.prog 150 #[.slice none 0 0] w fun e w' => e = .returned (.slice none 0 0) ∧ Chg (fun _ => False) w w' := by
  go_enter Tryz.func150, Tryz.ntmps150
  go_wp2
  go_loopw [3] (fun fv wr => fv = .int .i64 0 ∧ Aside0 (Chg (fun _ => False) w wr)) (fun fv _ => 0)
  case atStart => exact ⟨rfl, ⟨Chg.refl _ _⟩⟩
  case round =>
    obtain ⟨rfl, HC⟩ := hrel
    go_wp2
    go_ret
    exact ⟨rfl, HC.out⟩
end Go.Proofs.YtdambnclbpipdaaGreatDoor.Ng
namespace Go.Proofs.YtdambnclbpipdaaGreatDoor.X
set_option linter.unusedVariables false
set_option linter.unusedSimpArgs false
open Go.RowKit Go.Proofs.YtdambnclbpipdaaGreatDoorW.PrintWords Go.Proofs.YtdambnclbpipdaaGreatDoor.Hp Go.Proofs.YtdambnclbpipdaaGreatDoor.Na Go.Proofs.YtdambnclbpipdaaGreatDoor.Nb Go.Proofs.YtdambnclbpipdaaGreatDoor.Ng
def norm_ordered.f (a0 : List Int) : Option (List Int) := if a0.length ≤ 1000000000000000 then some (ordL a0) else none
theorem norm_ordered.calls (P0_ : Nat → Prop) (u9000_ : Value) (l0 : List Int) (r : List Int) (w0 w : World) (hB : Below w0.heap.size w0 w) (ho0 : Kd.R (Kd.int .i32) 21 w w0.heap.size P0_ u9000_ l0) (h : norm_ordered.f l0 = some r) (hG0 : Va.G w0) :
    Calls Tryz.prog 150 #[u9000_] w fun e w' => ∃ v0_ : Value, e = .returned v0_ ∧ Kd.R (Kd.int .i32) 21 w' w0.heap.size (fun k_ => (P0_ k_ ∨ w.heap.size ≤ k_)) v0_ r ∧ Below w0.heap.size w0 w' ∧ Kept w w' (fun k_ => P0_ k_) := by
  unfold norm_ordered.f at h
  split at h
  case isFalse => exact absurd h (by simp)
  case isTrue hl =>
    have h := Option.some.inj h
    have hG : Va.G w := hG0.below hB
    have hok := ho0.1
    rcases Reg.of_row (n := 0) (c := 0) ho0 with ⟨rfl, n, rfl, rfl⟩ | ⟨g, cap, post, rfl, h1, h2, h3, h4, h5⟩
    · refine (OrdN w).mono ?_
      rintro e w' ⟨rfl, p1⟩
      rw [← h]
      exact ⟨_, rfl, Kd.R_mono (R_chg ho0 p1 (fun _ _ h => h)) (fun k hk => .inl hk), below_then hB hB.size (p1.below (B := w.heap.size) (fun k hk => ⟨hk, id⟩)), (p1.mono (fun _ _ h => h.elim)).kept⟩
    · have hg : 3 ≤ g := Nat.le_trans (G_size hG0) h4
      have hgP : P0_ g := hok g rfl
      refine (OrdP w hG g hg post l0 h5 l0.length cap rfl hl h1).mono ?_
      rintro e w' ⟨rfl, p1, p2⟩
      rw [← h]
      have hlen := ordL_len l0
      refine ⟨_, rfl, ?_, p1.below_of hB (fun k hk => by rw [hk]; exact h4), (p1.mono (fun k _ hk => by rw [hk]; exact hgP)).kept⟩
      have := Reg.to_row (ok := fun k_ => (P0_ k_ ∨ w.heap.size ≤ k_)) p2 h4 (.inl hgP) h2 (by rw [hlen]; exact h3)
      rw [hlen] at this
      exact this
end Go.Proofs.YtdambnclbpipdaaGreatDoor.X
namespace Go.Proofs.YtdambnclbpipdaaGreatDoor.Vc
set_option linter.unusedVariables false
set_option linter.unusedSimpArgs false
open Go.RowKit Go.Proofs.YtdambnclbpipdaaGreatDoorW.PrintWords Go.Proofs.YtdambnclbpipdaaGreatDoor.Hp Go.Proofs.YtdambnclbpipdaaGreatDoor.Va
abbrev nmS : ByteArray := ⟨#[103, 97, 99, 116, 109, 98, 112, 100, 114, 113, 118, 101, 111]⟩
def nmL : List Int := [103, 97, 99, 116, 109, 98, 112, 100, 114, 113, 118, 101, 111]
def nmF (c : Int) : List Int → List Int → Int
  | a :: l, m :: t => if a = c then m else nmF c l t
  | _, _ => 0
def nmd (c : Int) : Int := nmF c nmL mksT
theorem nm_ascii : ∀ p : Fin 13, (nmS[p.1]'(p.2)).toNat < 128 ∧ (((nmS[p.1]'(p.2)).toNat : Nat) : Int) = nmL.getD p.1 0 := by decide
theorem nm_next (w : World) (pos : Nat) (h : pos < 13) (ty : TypeId) : (Instr.next (.pointer (some ⟨w.heap.size, 0, none⟩)) true ty).run Tryz.prog (w.iter nmS pos) = .ok (.tuple #[.bool true, .int .i64 pos, .int .i32 (nmL.getD pos 0)]) (w.iter nmS (pos + 1)) := by
  have h1 := nm_ascii ⟨pos, h⟩
  have := run_next_ascii (P := Tryz.prog) w nmS pos ty h h1.1
  rw [h1.2] at this
  exact this
theorem iter_below (w : World) (pos : Nat) : Below w.heap.size w (w.iter nmS pos) := below_alloc (Below.refl _ _) _
theorem iter_pos (w : World) (pos : Nat) : (w.iter nmS pos).iterPos w.heap.size = pos := by simp [World.iterPos, World.iter_heap]
set_option maxRecDepth 100000 in
set_option maxHeartbeats 1000000 in
theorem NamedP (w : World) (hG : G w) (c : Int) (hc : 0 ≤ c ∧ c < 256) : Calls Tryz.prog 186 #[.int .u8 c] w fun e w' => e = .returned (.int .i32 (nmd c)) ∧ Below w.heap.size w w' := by
  have HG := Aside0.mk hG
  clear hG
  have hcv : wrap32 c = c := by unfold wrap32; omega
  go_enter Tryz.func186, Tryz.ntmps186
  go_wp2
  go_loopw [6] (fun _ wr => ∃ pos : Nat, pos ≤ 13 ∧ wr = w.iter nmS pos ∧ Aside0 (nmd c = nmF c (nmL.drop pos) (mksT.drop pos))) (fun _ wr => 13 - wr.iterPos w.heap.size)
  case atStart => exact ⟨0, Nat.zero_le _, rfl, ⟨rfl⟩⟩
  case round =>
    obtain ⟨pos, hp, rfl, HE⟩ := hrel
    by_cases hlt : pos < 13
    · have hnx := nm_next w pos hlt
      have hcell0 : w.cell? ⟨2, 0 + pos, none⟩ = some (.int .i32 (mksT.getD pos 0)) := HG.out.2.2 pos _ (by
        have : pos < mksT.length := hlt
        simp [nums, List.getElem?_eq_getElem this])
      have hcell := ((iter_below w (pos + 1)).cell (World.block_lt_of_cell? w _ hcell0)).trans hcell0
      rw [Nat.zero_add] at hcell
      have he := HE.out
      have hd1 : nmL.drop pos = nmL.getD pos 0 :: nmL.drop (pos + 1) := by
        have h1 : pos < nmL.length := hlt
        rw [List.drop_eq_getElem_cons h1]
        simp [List.getElem?_eq_getElem h1]
      have hd2 : mksT.drop pos = mksT.getD pos 0 :: mksT.drop (pos + 1) := by
        have h1 : pos < mksT.length := hlt
        rw [List.drop_eq_getElem_cons h1]
        simp [List.getElem?_eq_getElem h1]
      rw [hd1, hd2, nmF] at he
      obtain ⟨a, ha⟩ : ∃ a, a = nmL.getD pos 0 := ⟨_, rfl⟩
      obtain ⟨m, hm⟩ : ∃ m, m = mksT.getD pos 0 := ⟨_, rfl⟩
      rw [← ha] at hnx he
      rw [← hm] at hcell he
      have NB := Aside0.mk (iter_below w (pos + 1))
      have MU := Aside0.mk (iter_pos w pos)
      have MU1 := Aside0.mk (iter_pos w (pos + 1))
      clear hcell0 hd1 hd2 ha hm
      by_cases hac : a = c
      · rw [if_pos hac] at he
        have hac2 : (a == c) = true := by simpa using hac
        have HE1 := Aside0.mk he
        clear he hac
        go_wp2
        go_ret
        exact ⟨by rw [HE1.out]; rfl, NB.out⟩
      · rw [if_neg hac] at he
        have hac2 : (a == c) = false := by simpa using hac
        have HE1 := Aside0.mk he
        clear he hac
        go_wp2
        go_roundw
        case rel => exact ⟨pos + 1, by omega, rfl, HE1⟩
        case measure => rw [MU.out, MU1.out]; omega
    · obtain rfl : pos = 13 := by omega
      have hnx := fun ty => run_next_end (P := Tryz.prog) w nmS 13 ty (by decide)
      have HE1 := Aside0.mk (show nmd c = 0 from HE.out)
      have NB := Aside0.mk (iter_below w 13)
      go_wp2
      go_ret
      exact ⟨by rw [HE1.out]; rfl, NB.out⟩
abbrev latL : ByteArray := ⟨#[65, 65, 65, 65, 65, 65, 46, 67, 69, 69, 69, 69, 73, 73, 73, 73, 46, 78, 79, 79, 79, 79, 79, 46, 46, 85, 85, 85, 85, 89, 46, 46, 97, 97, 97, 97, 97, 97, 46, 99, 101, 101, 101, 101, 105, 105, 105, 105, 46, 110, 111, 111, 111, 111, 111, 46, 46, 117, 117, 117, 117, 121, 46, 121]⟩
abbrev latM : ByteArray := ⟨#[103, 97, 99, 116, 100, 114, 46, 101, 103, 97, 99, 100, 103, 97, 99, 100, 46, 116, 103, 97, 99, 116, 100, 46, 46, 103, 97, 99, 100, 97, 46, 46, 103, 97, 99, 116, 100, 114, 46, 101, 103, 97, 99, 100, 103, 97, 99, 100, 46, 116, 103, 97, 99, 116, 100, 46, 46, 103, 97, 99, 100, 97, 46, 100]⟩
abbrev morL : ByteArray := ⟨#[65, 97, 65, 97, 65, 97, 67, 99, 67, 99, 67, 99, 67, 99, 68, 100, 46, 46, 69, 101, 69, 101, 69, 101, 69, 101, 69, 101, 71, 103, 71, 103, 71, 103, 71, 103, 72, 104, 46, 46, 73, 105, 73, 105, 73, 105, 73, 105, 73, 46, 46, 46, 74, 106, 75, 107, 46, 76, 108, 76, 108, 76, 108, 46, 46, 46, 46, 78, 110, 78, 110, 78, 110, 46, 46, 46, 79, 111, 79, 111, 79, 111, 46, 46, 82, 114, 82, 114, 82, 114, 83, 115, 83, 115, 83, 115, 83, 115, 84, 116, 84, 116, 46, 46, 85, 117, 85, 117, 85, 117, 85, 117, 85, 117, 85, 117, 87, 119, 89, 121, 89, 90, 122, 90, 122, 90, 122, 46]⟩
abbrev morM : ByteArray := ⟨#[109, 109, 98, 98, 111, 111, 97, 97, 99, 99, 112, 112, 118, 118, 118, 118, 46, 46, 109, 109, 98, 98, 112, 112, 111, 111, 118, 118, 99, 99, 98, 98, 112, 112, 101, 101, 99, 99, 46, 46, 116, 116, 109, 109, 98, 98, 111, 111, 112, 46, 46, 46, 99, 99, 101, 101, 46, 97, 97, 101, 101, 118, 118, 46, 46, 46, 46, 97, 97, 101, 101, 118, 118, 46, 46, 46, 109, 109, 98, 98, 113, 113, 46, 46, 97, 97, 101, 101, 118, 118, 97, 97, 99, 99, 101, 101, 118, 118, 101, 101, 118, 118, 46, 46, 116, 116, 109, 109, 98, 98, 114, 114, 113, 113, 111, 111, 99, 99, 99, 99, 100, 97, 97, 112, 112, 118, 118, 46]⟩
def byt (s : ByteArray) (i : Nat) : Int := ((s.data.toList.getD i 0).toNat : Int)
theorem byt_range (s : ByteArray) (i : Nat) : 0 ≤ byt s i ∧ byt s i < 256 := by
  unfold byt
  have := UInt8.toNat_lt (s.data.toList.getD i 0)
  omega
def prsF (r : Int) : List (Int × Int × Int) → Int × Int × Int
  | [] => (0, 0, 0)
  | p :: t => if p.1 = r then (if p.2.2 = 0 then (p.2.1, 0, 1) else (p.2.1, p.2.2, 2)) else prsF r t
def ltr (L M : ByteArray) (i : Nat) : Int × Int × Int := if byt L i = 46 then (0, 0, 0) else (byt L i, nmd (byt M i), 2)
def pairU (r : Int) : Int × Int × Int :=
  if 44032 ≤ r ∧ r ≤ 55203 then (if (r - 44032) % 28 = 0 then (4352 + (r - 44032) / 588, 4449 + (r - 44032) % 588 / 28, 2) else (r - (r - 44032) % 28, 4519 + (r - 44032) % 28, 2))
  else if 256 ≤ r ∧ r < 384 then ltr morL morM (r - 256).toNat
  else if r < 192 ∨ 255 < r then prsF r prsT
  else ltr latL latM (r - 192).toNat
theorem idxS (s : ByteArray) (i : Nat) (h : i < s.size) (W : World) : (Instr.index 9 (.string s) (.int .i32 (i : Int))).run Tryz.prog W = .ok (.int .u8 (byt s i)) W := by
  rw [run_index_string W 9 s .i32 (i : Int) Tryz.underlying9, dif_pos ⟨by omega, by omega⟩]
  congr 2
  unfold byt
  have h1 : i < s.data.toList.length := by simpa using h
  simp only [Int.toNat_natCast, List.getD_eq_getElem?_getD, List.getElem?_eq_getElem h1, Option.getD_some]
  rfl
theorem idxP (i : Nat) (hi : i < 31) : ∀ W : World, (Instr.index 238 (.agg (cells3 prsT).toArray) (.int .i64 (i : Int))).run Tryz.prog W = .ok (.agg #[.int .i32 (prsT.getD i (0, 0, 0)).1, .int .i32 (prsT.getD i (0, 0, 0)).2.1, .int .i32 (prsT.getD i (0, 0, 0)).2.2]) W := by
  intro W
  match i, hi with
  | 0, _ => exact (show _ = _ by kernel_rfl)
  | 1, _ => exact (show _ = _ by kernel_rfl)
  | 2, _ => exact (show _ = _ by kernel_rfl)
  | 3, _ => exact (show _ = _ by kernel_rfl)
  | 4, _ => exact (show _ = _ by kernel_rfl)
  | 5, _ => exact (show _ = _ by kernel_rfl)
  | 6, _ => exact (show _ = _ by kernel_rfl)
  | 7, _ => exact (show _ = _ by kernel_rfl)
  | 8, _ => exact (show _ = _ by kernel_rfl)
  | 9, _ => exact (show _ = _ by kernel_rfl)
  | 10, _ => exact (show _ = _ by kernel_rfl)
  | 11, _ => exact (show _ = _ by kernel_rfl)
  | 12, _ => exact (show _ = _ by kernel_rfl)
  | 13, _ => exact (show _ = _ by kernel_rfl)
  | 14, _ => exact (show _ = _ by kernel_rfl)
  | 15, _ => exact (show _ = _ by kernel_rfl)
  | 16, _ => exact (show _ = _ by kernel_rfl)
  | 17, _ => exact (show _ = _ by kernel_rfl)
  | 18, _ => exact (show _ = _ by kernel_rfl)
  | 19, _ => exact (show _ = _ by kernel_rfl)
  | 20, _ => exact (show _ = _ by kernel_rfl)
  | 21, _ => exact (show _ = _ by kernel_rfl)
  | 22, _ => exact (show _ = _ by kernel_rfl)
  | 23, _ => exact (show _ = _ by kernel_rfl)
  | 24, _ => exact (show _ = _ by kernel_rfl)
  | 25, _ => exact (show _ = _ by kernel_rfl)
  | 26, _ => exact (show _ = _ by kernel_rfl)
  | 27, _ => exact (show _ = _ by kernel_rfl)
  | 28, _ => exact (show _ = _ by kernel_rfl)
  | 29, _ => exact (show _ = _ by kernel_rfl)
  | 30, _ => exact (show _ = _ by kernel_rfl)
  | n + 31, h => exact absurd h (by omega)
theorem infoP : (Tryz.prog.info? 238).map (·.size) = some (cells3 prsT).length := by kernel_rfl
def PairPost (w : World) (r : Int) (e : Ending) (w' : World) : Prop := e = .returned (.tuple #[.int .i32 (pairU r).1, .int .i32 (pairU r).2.1, .int .i64 (pairU r).2.2]) ∧ Below w.heap.size w w'
set_option maxRecDepth 100000 in
set_option maxHeartbeats 1000000 in
theorem PairSyl (w : World) (s : Nat) (hs : s ≤ 11171) : Calls Tryz.prog 172 #[.int .i32 (44032 + (s : Int))] w (PairPost w (44032 + (s : Int))) := by
  have d1 : decide ((44032 : Int) ≤ 44032 + (s : Int)) = true := decide_eq_true (by omega)
  have d2 : decide (44032 + (s : Int) ≤ 55203) = true := decide_eq_true (by omega)
  have t1 : (s : Int).tmod 28 = ((s % 28 : Nat) : Int) := by rw [Int.tmod_eq_emod_of_nonneg (by omega)]; omega
  have t2 : (s : Int).tmod 588 = ((s % 588 : Nat) : Int) := by rw [Int.tmod_eq_emod_of_nonneg (by omega)]; omega
  have t3 : (s : Int).tdiv 588 = ((s / 588 : Nat) : Int) := by rw [Int.tdiv_eq_ediv_of_nonneg (by omega)]; omega
  have t4 : ((s % 588 : Nat) : Int).tdiv 28 = ((s % 588 / 28 : Nat) : Int) := by rw [Int.tdiv_eq_ediv_of_nonneg (by omega)]; omega
  have e1 : 44032 + (s : Int) - 44032 = (s : Int) := by omega
  have b1 : s / 588 ≤ 18 := by omega
  have b2 : s % 588 / 28 ≤ 20 := by omega
  have b3 : s % 28 ≤ 27 := by omega
  obtain ⟨x1, hx1⟩ : ∃ x, x = s % 28 := ⟨_, rfl⟩
  obtain ⟨x2, hx2⟩ : ∃ x, x = s % 588 := ⟨_, rfl⟩
  obtain ⟨x3, hx3⟩ : ∃ x, x = s / 588 := ⟨_, rfl⟩
  rw [← hx1] at t1 b3
  rw [← hx2] at t2 t4 b2
  rw [← hx3] at t3 b1
  obtain ⟨x4, hx4⟩ : ∃ x, x = x2 / 28 := ⟨_, rfl⟩
  rw [← hx4] at t4 b2
  have hP : pairU (44032 + (s : Int)) = if x1 = 0 then (4352 + (x3 : Int), 4449 + (x4 : Int), 2) else (44032 + (s : Int) - (x1 : Int), 4519 + (x1 : Int), 2) := by
    unfold pairU
    rw [if_pos ⟨by omega, by omega⟩, e1]
    by_cases h : x1 = 0
    · rw [if_pos (by omega), if_pos h]
      congr 1
      · omega
      · congr 1; omega
    · rw [if_neg (by omega), if_neg h]
      congr 1
      · omega
      · congr 1; omega
  have HP := Aside0.mk hP
  clear hP hx1 hx2 hx3 hx4
  by_cases h : x1 = 0
  · subst h
    go_enter Tryz.func172, Tryz.ntmps172
    go_wp2
    go_ret3
    exact ⟨by rw [HP.out]; rfl, Below.refl _ _⟩
  · have h0 : ((x1 : Int) == 0) = false := by simp; omega
    go_enter Tryz.func172, Tryz.ntmps172
    go_wp2
    go_ret3
    exact ⟨by rw [HP.out, if_neg h]; rfl, Below.refl _ _⟩
set_option maxRecDepth 100000 in
set_option maxHeartbeats 1000000 in
theorem PairLat (w : World) (hG : G w) (i : Nat) (hi : i < 64) : Calls Tryz.prog 172 #[.int .i32 (192 + (i : Int))] w (PairPost w (192 + (i : Int))) := by
  have HG := Aside0.mk hG
  clear hG
  have d1 : decide ((44032 : Int) ≤ 192 + (i : Int)) = false := decide_eq_false (by omega)
  have d2 : decide ((256 : Int) ≤ 192 + (i : Int)) = false := decide_eq_false (by omega)
  have d3 : decide (192 + (i : Int) < 192) = false := decide_eq_false (by omega)
  have d4 : decide ((255 : Int) < 192 + (i : Int)) = false := decide_eq_false (by omega)
  have e1 : 192 + (i : Int) - 192 = (i : Int) := by omega
  have hP : pairU (192 + (i : Int)) = ltr latL latM i := by
    unfold pairU
    rw [if_neg (by omega), if_neg (by omega), if_neg (by omega), e1, Int.toNat_natCast]
  have hix := idxS latL i hi
  have hiy := idxS latM i hi
  have hmr := byt_range latM i
  have har := byt_range latL i
  obtain ⟨a, ha⟩ : ∃ a, a = byt latL i := ⟨_, rfl⟩
  obtain ⟨m, hm⟩ : ∃ m, m = byt latM i := ⟨_, rfl⟩
  rw [← ha] at hix har
  rw [← hm] at hiy hmr
  have hwa : IntKind.i32.wrap a = a := by rw [IntKind.wrap_i32]; omega
  unfold latL at hix
  unfold latM at hiy
  by_cases h : a = 46
  · have h0 : (a == 46) = true := by simpa using h
    have HP := Aside0.mk (show pairU (192 + (i : Int)) = (0, 0, 0) by rw [hP]; unfold ltr; rw [if_pos (by rw [← ha]; exact h)])
    clear hP ha h hm
    go_enter Tryz.func172, Tryz.ntmps172
    go_wp2
    go_ret3
    exact ⟨by rw [HP.out]; rfl, Below.refl _ _⟩
  · have h0 : (a == 46) = false := by simpa using h
    have HP := Aside0.mk (show pairU (192 + (i : Int)) = (a, nmd m, 2) by rw [hP]; unfold ltr; rw [if_neg (by rw [← ha]; exact h), ← ha, ← hm])
    clear hP ha h hm
    go_enter Tryz.func172, Tryz.ntmps172
    go_upto_region 21 with (fail)
    refine wp_region_held_drew (S := fun W => Below w.heap.size w W) (by kernel_rfl) (((Drawn0.refl w).step 1).below) (fun hS => ?_)
    refine wpAnyH_take (i := 0) (oi := { dst := some 78, op := _, type := _, pos := _, after := _, guard := _ }) (v := .string latL) rfl (by kernel_rfl) (by kernel_rfl) (by kernel_rfl) (fun _ _ _ h => h) (Or.inl ⟨by rfl, fun W hW => ?_⟩) hS ?_
    · (go_simp)
    try simp only [Act.put, List.setIfInBounds_toArray, List.set_cons_zero, List.set_cons_succ]
    refine wpAnyH_take (i := 1) (oi := { dst := some 79, op := _, type := _, pos := _, after := _, guard := _ }) (v := .int .i32 (i : Int)) rfl (by kernel_rfl) (by kernel_rfl) (by kernel_rfl) (fun _ _ _ h => h) (Or.inl ⟨by rfl, fun W hW => ?_⟩) hS ?_
    · (go_simp)
    try simp only [Act.put, List.setIfInBounds_toArray, List.set_cons_zero, List.set_cons_succ]
    refine wpAnyH_take (i := 2) (oi := { dst := some 80, op := _, type := _, pos := _, after := _, guard := _ }) (v := .int .u8 a) rfl (by kernel_rfl) (by kernel_rfl) (by kernel_rfl) (fun _ _ _ h => h) (Or.inl ⟨by rfl, fun W hW => ?_⟩) hS ?_
    · (have h := hix W; go_simp)
    try simp only [Act.put, List.setIfInBounds_toArray, List.set_cons_zero, List.set_cons_succ]
    refine wpAnyH_take (i := 3) (oi := { dst := some 81, op := _, type := _, pos := _, after := _, guard := _ }) (v := .int .i32 a) rfl (by kernel_rfl) (by kernel_rfl) (by kernel_rfl) (fun _ _ _ h => h) (Or.inl ⟨by rfl, fun W hW => ?_⟩) hS ?_
    · (go_simp)
    try simp only [Act.put, List.setIfInBounds_toArray, List.set_cons_zero, List.set_cons_succ]
    refine wpAnyH_take (i := 4) (oi := { dst := some 82, op := _, type := _, pos := _, after := _, guard := _ }) (v := .string latM) rfl (by kernel_rfl) (by kernel_rfl) (by kernel_rfl) (fun _ _ _ h => h) (Or.inl ⟨by rfl, fun W hW => ?_⟩) hS ?_
    · (go_simp)
    try simp only [Act.put, List.setIfInBounds_toArray, List.set_cons_zero, List.set_cons_succ]
    refine wpAnyH_take (i := 5) (oi := { dst := some 83, op := _, type := _, pos := _, after := _, guard := _ }) (v := .int .i32 (i : Int)) rfl (by kernel_rfl) (by kernel_rfl) (by kernel_rfl) (fun _ _ _ h => h) (Or.inl ⟨by rfl, fun W hW => ?_⟩) hS ?_
    · (go_simp)
    try simp only [Act.put, List.setIfInBounds_toArray, List.set_cons_zero, List.set_cons_succ]
    refine wpAnyH_take (i := 6) (oi := { dst := some 84, op := _, type := _, pos := _, after := _, guard := _ }) (v := .int .u8 m) rfl (by kernel_rfl) (by kernel_rfl) (by kernel_rfl) (fun _ _ _ h => h) (Or.inl ⟨by rfl, fun W hW => ?_⟩) hS ?_
    · (have h := hiy W; go_simp)
    try simp only [Act.put, List.setIfInBounds_toArray, List.set_cons_zero, List.set_cons_succ]
    refine wpAnyH_ready (rs := [7]) (by kernel_rfl) (by simp) ?_
    refine AllReadyH.cons (o := { dst := some 85, op := _, type := _, pos := _, after := _, guard := _ }) rfl (fun K hK => ?_) AllReadyH.nil
    go_simp
    (go_at_call 186)
    refine (NamedP w.drew (HG.out.below hS) m hmr).mono ?_
    rintro e w5 ⟨rfl, p1⟩
    have hS2 := below_then hS hS.size p1
    go_wp2_with fail
    refine hK.out _ _ hS2 (fun hS3 => ?_)
    clear hK K hS p1 hS3
    have hS := hS2
    clear hS2
    try simp only [Act.put, List.setIfInBounds_toArray, List.set_cons_zero, List.set_cons_succ]
    refine wpAnyH_take (i := 8) (oi := { dst := some 2, op := _, type := _, pos := _, after := _, guard := _ }) (v := .int .i32 a) rfl (by kernel_rfl) (by kernel_rfl) (by kernel_rfl) (fun _ _ _ h => h) (Or.inl ⟨by rfl, fun W hW => ?_⟩) hS ?_
    · (go_simp)
    try simp only [Act.put, List.setIfInBounds_toArray, List.set_cons_zero, List.set_cons_succ]
    refine wpAnyH_take (i := 9) (oi := { dst := some 3, op := _, type := _, pos := _, after := _, guard := _ }) (v := .int .i32 (nmd m)) rfl (by kernel_rfl) (by kernel_rfl) (by kernel_rfl) (fun _ _ _ h => h) (Or.inl ⟨by rfl, fun W hW => ?_⟩) hS ?_
    · (go_simp)
    try simp only [Act.put, List.setIfInBounds_toArray, List.set_cons_zero, List.set_cons_succ]
    refine wpAnyH_take (i := 10) (oi := { dst := some 4, op := _, type := _, pos := _, after := _, guard := _ }) (v := .int .i64 2) rfl (by kernel_rfl) (by kernel_rfl) (by kernel_rfl) (fun _ _ _ h => h) (Or.inl ⟨by rfl, fun W hW => ?_⟩) hS ?_
    · (go_simp)
    try simp only [Act.put, List.setIfInBounds_toArray, List.set_cons_zero, List.set_cons_succ]
    refine wpAnyH_done (by kernel_rfl) ?_ _
    go_wp2
    go_ret3
    exact ⟨by rw [HP.out]; rfl, hS⟩
set_option maxRecDepth 100000 in
set_option maxHeartbeats 1000000 in
theorem PairMor (w : World) (hG : G w) (i : Nat) (hi : i < 128) : Calls Tryz.prog 172 #[.int .i32 (256 + (i : Int))] w (PairPost w (256 + (i : Int))) := by
  have HG := Aside0.mk hG
  clear hG
  have d1 : decide ((44032 : Int) ≤ 256 + (i : Int)) = false := decide_eq_false (by omega)
  have d2 : decide ((256 : Int) ≤ 256 + (i : Int)) = true := decide_eq_true (by omega)
  have d3 : decide (256 + (i : Int) < 384) = true := decide_eq_true (by omega)
  have e1 : 256 + (i : Int) - 256 = (i : Int) := by omega
  have hP : pairU (256 + (i : Int)) = ltr morL morM i := by
    unfold pairU
    rw [if_neg (by omega), if_pos (by omega), e1, Int.toNat_natCast]
  have hix := idxS morL i hi
  have hiy := idxS morM i hi
  have hmr := byt_range morM i
  have har := byt_range morL i
  obtain ⟨a, ha⟩ : ∃ a, a = byt morL i := ⟨_, rfl⟩
  obtain ⟨m, hm⟩ : ∃ m, m = byt morM i := ⟨_, rfl⟩
  rw [← ha] at hix har
  rw [← hm] at hiy hmr
  have hwa : IntKind.i32.wrap a = a := by rw [IntKind.wrap_i32]; omega
  unfold morL at hix
  unfold morM at hiy
  by_cases h : a = 46
  · have h0 : (a == 46) = true := by simpa using h
    have HP := Aside0.mk (show pairU (256 + (i : Int)) = (0, 0, 0) by rw [hP]; unfold ltr; rw [if_pos (by rw [← ha]; exact h)])
    clear hP ha h hm
    go_enter Tryz.func172, Tryz.ntmps172
    go_wp2
    go_ret3
    exact ⟨by rw [HP.out]; rfl, Below.refl _ _⟩
  · have h0 : (a == 46) = false := by simpa using h
    have HP := Aside0.mk (show pairU (256 + (i : Int)) = (a, nmd m, 2) by rw [hP]; unfold ltr; rw [if_neg (by rw [← ha]; exact h), ← ha, ← hm])
    clear hP ha h hm
    go_enter Tryz.func172, Tryz.ntmps172
    go_upto_region 21 with (fail)
    refine wp_region_held_drew (S := fun W => Below w.heap.size w W) (by kernel_rfl) (((Drawn0.refl w).step 1).below) (fun hS => ?_)
    refine wpAnyH_take (i := 0) (oi := { dst := some 78, op := _, type := _, pos := _, after := _, guard := _ }) (v := .string morL) rfl (by kernel_rfl) (by kernel_rfl) (by kernel_rfl) (fun _ _ _ h => h) (Or.inl ⟨by rfl, fun W hW => ?_⟩) hS ?_
    · (go_simp)
    try simp only [Act.put, List.setIfInBounds_toArray, List.set_cons_zero, List.set_cons_succ]
    refine wpAnyH_take (i := 1) (oi := { dst := some 79, op := _, type := _, pos := _, after := _, guard := _ }) (v := .int .i32 (i : Int)) rfl (by kernel_rfl) (by kernel_rfl) (by kernel_rfl) (fun _ _ _ h => h) (Or.inl ⟨by rfl, fun W hW => ?_⟩) hS ?_
    · (go_simp)
    try simp only [Act.put, List.setIfInBounds_toArray, List.set_cons_zero, List.set_cons_succ]
    refine wpAnyH_take (i := 2) (oi := { dst := some 80, op := _, type := _, pos := _, after := _, guard := _ }) (v := .int .u8 a) rfl (by kernel_rfl) (by kernel_rfl) (by kernel_rfl) (fun _ _ _ h => h) (Or.inl ⟨by rfl, fun W hW => ?_⟩) hS ?_
    · (have h := hix W; go_simp)
    try simp only [Act.put, List.setIfInBounds_toArray, List.set_cons_zero, List.set_cons_succ]
    refine wpAnyH_take (i := 3) (oi := { dst := some 81, op := _, type := _, pos := _, after := _, guard := _ }) (v := .int .i32 a) rfl (by kernel_rfl) (by kernel_rfl) (by kernel_rfl) (fun _ _ _ h => h) (Or.inl ⟨by rfl, fun W hW => ?_⟩) hS ?_
    · (go_simp)
    try simp only [Act.put, List.setIfInBounds_toArray, List.set_cons_zero, List.set_cons_succ]
    refine wpAnyH_take (i := 4) (oi := { dst := some 82, op := _, type := _, pos := _, after := _, guard := _ }) (v := .string morM) rfl (by kernel_rfl) (by kernel_rfl) (by kernel_rfl) (fun _ _ _ h => h) (Or.inl ⟨by rfl, fun W hW => ?_⟩) hS ?_
    · (go_simp)
    try simp only [Act.put, List.setIfInBounds_toArray, List.set_cons_zero, List.set_cons_succ]
    refine wpAnyH_take (i := 5) (oi := { dst := some 83, op := _, type := _, pos := _, after := _, guard := _ }) (v := .int .i32 (i : Int)) rfl (by kernel_rfl) (by kernel_rfl) (by kernel_rfl) (fun _ _ _ h => h) (Or.inl ⟨by rfl, fun W hW => ?_⟩) hS ?_
    · (go_simp)
    try simp only [Act.put, List.setIfInBounds_toArray, List.set_cons_zero, List.set_cons_succ]
    refine wpAnyH_take (i := 6) (oi := { dst := some 84, op := _, type := _, pos := _, after := _, guard := _ }) (v := .int .u8 m) rfl (by kernel_rfl) (by kernel_rfl) (by kernel_rfl) (fun _ _ _ h => h) (Or.inl ⟨by rfl, fun W hW => ?_⟩) hS ?_
    · (have h := hiy W; go_simp)
    try simp only [Act.put, List.setIfInBounds_toArray, List.set_cons_zero, List.set_cons_succ]
    refine wpAnyH_ready (rs := [7]) (by kernel_rfl) (by simp) ?_
    refine AllReadyH.cons (o := { dst := some 85, op := _, type := _, pos := _, after := _, guard := _ }) rfl (fun K hK => ?_) AllReadyH.nil
    go_simp
    (go_at_call 186)
    refine (NamedP w.drew (HG.out.below hS) m hmr).mono ?_
    rintro e w5 ⟨rfl, p1⟩
    have hS2 := below_then hS hS.size p1
    go_wp2_with fail
    refine hK.out _ _ hS2 (fun hS3 => ?_)
    clear hK K hS p1 hS3
    have hS := hS2
    clear hS2
    try simp only [Act.put, List.setIfInBounds_toArray, List.set_cons_zero, List.set_cons_succ]
    refine wpAnyH_take (i := 8) (oi := { dst := some 2, op := _, type := _, pos := _, after := _, guard := _ }) (v := .int .i32 a) rfl (by kernel_rfl) (by kernel_rfl) (by kernel_rfl) (fun _ _ _ h => h) (Or.inl ⟨by rfl, fun W hW => ?_⟩) hS ?_
    · (go_simp)
    try simp only [Act.put, List.setIfInBounds_toArray, List.set_cons_zero, List.set_cons_succ]
    refine wpAnyH_take (i := 9) (oi := { dst := some 3, op := _, type := _, pos := _, after := _, guard := _ }) (v := .int .i32 (nmd m)) rfl (by kernel_rfl) (by kernel_rfl) (by kernel_rfl) (fun _ _ _ h => h) (Or.inl ⟨by rfl, fun W hW => ?_⟩) hS ?_
    · (go_simp)
    try simp only [Act.put, List.setIfInBounds_toArray, List.set_cons_zero, List.set_cons_succ]
    refine wpAnyH_take (i := 10) (oi := { dst := some 4, op := _, type := _, pos := _, after := _, guard := _ }) (v := .int .i64 2) rfl (by kernel_rfl) (by kernel_rfl) (by kernel_rfl) (fun _ _ _ h => h) (Or.inl ⟨by rfl, fun W hW => ?_⟩) hS ?_
    · (go_simp)
    try simp only [Act.put, List.setIfInBounds_toArray, List.set_cons_zero, List.set_cons_succ]
    refine wpAnyH_done (by kernel_rfl) ?_ _
    go_wp2
    go_ret3
    exact ⟨by rw [HP.out]; rfl, hS⟩
set_option maxRecDepth 100000 in
set_option maxHeartbeats 1000000 in
theorem PairTab (w : World) (hG : G w) (r : Int) (hr5 : -2147483648 ≤ r ∧ r ≤ 2147483647) (h1 : ¬ (44032 ≤ r ∧ r ≤ 55203)) (h2 : ¬ (256 ≤ r ∧ r < 384)) (h3 : r < 192 ∨ 255 < r) : Calls Tryz.prog 172 #[.int .i32 r] w (PairPost w r) := by
  have hP : pairU r = prsF r prsT := by unfold pairU; rw [if_neg h1, if_neg h2, if_pos h3]
  obtain ⟨tl, htl⟩ : ∃ tl, tl = cells3 prsT := ⟨_, rfl⟩
  have HT := Aside0.mk (show w.rangeAt 1 0 tl by rw [htl]; exact hG.2.1)
  have HI := Aside0.mk (show (Tryz.prog.info? 238).map (·.size) = some tl.length by rw [htl]; exact infoP)
  have HX := Aside0.mk (show ∀ i : Nat, i < 31 → ∀ W : World, (Instr.index 238 (.agg tl.toArray) (.int .i64 (i : Int))).run Tryz.prog W = .ok (.agg #[.int .i32 (prsT.getD i (0, 0, 0)).1, .int .i32 (prsT.getD i (0, 0, 0)).2.1, .int .i32 (prsT.getD i (0, 0, 0)).2.2]) W by rw [htl]; exact idxP)
  have HP := Aside0.mk hP
  clear hG htl hP
  have hu43 := Tryz.underlying236
  have hcase : r < 192 ∨ (384 ≤ r ∧ r < 44032) ∨ 55203 < r := by omega
  clear h1 h2 h3
  rcases hcase with h1 | ⟨h1, h2⟩ | h1
  · have d1 : decide (44032 ≤ r) = false := decide_eq_false (by omega)
    have d2 : decide (256 ≤ r) = false := decide_eq_false (by omega)
    have d3 : decide (r < 192) = true := decide_eq_true (by omega)
    go_enter Tryz.func172, Tryz.ntmps172
    go_wp2_with (refine wpList_load_mid rfl 238 (.global 1) rfl 1 0 rfl tl _ HT.out Tryz.underlying238 rfl HI.out ?_)
    go_loopw [57] (fun iv wr => ∃ i : Nat, i ≤ 31 ∧ iv = .int .i64 i ∧ Aside0 (pairU r = prsF r (prsT.drop i)) ∧ Aside0 (Below w.heap.size w wr)) (fun iv _ => 31 - (intOf iv).toNat)
    case atStart => exact ⟨0, Nat.zero_le _, rfl, ⟨HP.out⟩, ⟨Below.refl _ _⟩⟩
    case round =>
      obtain ⟨i, hi, rfl, HE, HB⟩ := hrel
      by_cases hlt : i < 31
      · have hd : decide ((i : Int) < 31) = true := decide_eq_true (by omega)
        have hix := HX.out i hlt
        have he := HE.out
        have hdr : prsT.drop i = prsT.getD i (0, 0, 0) :: prsT.drop (i + 1) := by
          have h1 : i < prsT.length := hlt
          rw [List.drop_eq_getElem_cons h1, List.getD_eq_getElem?_getD, List.getElem?_eq_getElem h1]
          rfl
        rw [hdr, prsF] at he
        obtain ⟨⟨a, b, c⟩, hp⟩ : ∃ p, p = prsT.getD i (0, 0, 0) := ⟨_, rfl⟩
        rw [← hp] at hix he
        simp only at hix he
        clear hp hdr
        have NB := Aside0.mk (show Below w.heap.size w (wr.alloc (.cells #[.int .i32 a, .int .i32 b, .int .i32 c] 236)) from below_then HB.out HB.out.size (below_alloc (Below.refl _ _) _))
        by_cases ha : a = r
        · have ha1 : (a == r) = true := by simpa using ha
          rw [if_pos ha] at he
          by_cases hc : c = 0
          · have hc1 : (c == 0) = true := by simpa using hc
            rw [if_pos hc] at he
            have HE1 := Aside0.mk he
            clear he ha hc
            go_wp2
            go_ret3
            exact ⟨by rw [HE1.out]; rfl, NB.out⟩
          · have hc1 : (c == 0) = false := by simpa using hc
            rw [if_neg hc] at he
            have HE1 := Aside0.mk he
            clear he ha hc
            go_wp2
            go_quiet (fail)
            go_wp2
            go_ret3
            exact ⟨by rw [HE1.out]; rfl, below_then NB.out NB.out.size ((Drawn0.refl _).step nq).below⟩
        · have ha1 : (a == r) = false := by simpa using ha
          rw [if_neg ha] at he
          have HE1 := Aside0.mk he
          clear he ha
          go_wp2
          go_roundw
          case rel => exact ⟨i + 1, by omega, by go_num, HE1, NB⟩
          case measure => simp [intOf]; omega
      · have hd : decide ((i : Int) < 31) = false := decide_eq_false (by omega)
        obtain rfl : i = 31 := by omega
        have HE1 := Aside0.mk (show pairU r = (0, 0, 0) from HE.out)
        go_wp2
        go_ret3
        exact ⟨by rw [HE1.out]; rfl, HB.out⟩
  · have d1 : decide (44032 ≤ r) = false := decide_eq_false (by omega)
    have d2 : decide (256 ≤ r) = true := decide_eq_true (by omega)
    have d3 : decide (r < 384) = false := decide_eq_false (by omega)
    have d4 : decide (r < 192) = false := decide_eq_false (by omega)
    have d5 : decide (255 < r) = true := decide_eq_true (by omega)
    go_enter Tryz.func172, Tryz.ntmps172
    go_wp2_with (refine wpList_load_mid rfl 238 (.global 1) rfl 1 0 rfl tl _ HT.out Tryz.underlying238 rfl HI.out ?_)
    go_loopw [57] (fun iv wr => ∃ i : Nat, i ≤ 31 ∧ iv = .int .i64 i ∧ Aside0 (pairU r = prsF r (prsT.drop i)) ∧ Aside0 (Below w.heap.size w wr)) (fun iv _ => 31 - (intOf iv).toNat)
    case atStart => exact ⟨0, Nat.zero_le _, rfl, ⟨HP.out⟩, ⟨Below.refl _ _⟩⟩
    case round =>
      obtain ⟨i, hi, rfl, HE, HB⟩ := hrel
      by_cases hlt : i < 31
      · have hd : decide ((i : Int) < 31) = true := decide_eq_true (by omega)
        have hix := HX.out i hlt
        have he := HE.out
        have hdr : prsT.drop i = prsT.getD i (0, 0, 0) :: prsT.drop (i + 1) := by
          have h1 : i < prsT.length := hlt
          rw [List.drop_eq_getElem_cons h1, List.getD_eq_getElem?_getD, List.getElem?_eq_getElem h1]
          rfl
        rw [hdr, prsF] at he
        obtain ⟨⟨a, b, c⟩, hp⟩ : ∃ p, p = prsT.getD i (0, 0, 0) := ⟨_, rfl⟩
        rw [← hp] at hix he
        simp only at hix he
        clear hp hdr
        have NB := Aside0.mk (show Below w.heap.size w (wr.alloc (.cells #[.int .i32 a, .int .i32 b, .int .i32 c] 236)) from below_then HB.out HB.out.size (below_alloc (Below.refl _ _) _))
        by_cases ha : a = r
        · have ha1 : (a == r) = true := by simpa using ha
          rw [if_pos ha] at he
          by_cases hc : c = 0
          · have hc1 : (c == 0) = true := by simpa using hc
            rw [if_pos hc] at he
            have HE1 := Aside0.mk he
            clear he ha hc
            go_wp2
            go_ret3
            exact ⟨by rw [HE1.out]; rfl, NB.out⟩
          · have hc1 : (c == 0) = false := by simpa using hc
            rw [if_neg hc] at he
            have HE1 := Aside0.mk he
            clear he ha hc
            go_wp2
            go_quiet (fail)
            go_wp2
            go_ret3
            exact ⟨by rw [HE1.out]; rfl, below_then NB.out NB.out.size ((Drawn0.refl _).step nq).below⟩
        · have ha1 : (a == r) = false := by simpa using ha
          rw [if_neg ha] at he
          have HE1 := Aside0.mk he
          clear he ha
          go_wp2
          go_roundw
          case rel => exact ⟨i + 1, by omega, by go_num, HE1, NB⟩
          case measure => simp [intOf]; omega
      · have hd : decide ((i : Int) < 31) = false := decide_eq_false (by omega)
        obtain rfl : i = 31 := by omega
        have HE1 := Aside0.mk (show pairU r = (0, 0, 0) from HE.out)
        go_wp2
        go_ret3
        exact ⟨by rw [HE1.out]; rfl, HB.out⟩
  · have d1 : decide (44032 ≤ r) = true := decide_eq_true (by omega)
    have d0 : decide (r ≤ 55203) = false := decide_eq_false (by omega)
    have d2 : decide (256 ≤ r) = true := decide_eq_true (by omega)
    have d3 : decide (r < 384) = false := decide_eq_false (by omega)
    have d4 : decide (r < 192) = false := decide_eq_false (by omega)
    have d5 : decide (255 < r) = true := decide_eq_true (by omega)
    go_enter Tryz.func172, Tryz.ntmps172
    go_wp2_with (refine wpList_load_mid rfl 238 (.global 1) rfl 1 0 rfl tl _ HT.out Tryz.underlying238 rfl HI.out ?_)
    go_loopw [57] (fun iv wr => ∃ i : Nat, i ≤ 31 ∧ iv = .int .i64 i ∧ Aside0 (pairU r = prsF r (prsT.drop i)) ∧ Aside0 (Below w.heap.size w wr)) (fun iv _ => 31 - (intOf iv).toNat)
    case atStart => exact ⟨0, Nat.zero_le _, rfl, ⟨HP.out⟩, ⟨Below.refl _ _⟩⟩
    case round =>
      obtain ⟨i, hi, rfl, HE, HB⟩ := hrel
      by_cases hlt : i < 31
      · have hd : decide ((i : Int) < 31) = true := decide_eq_true (by omega)
        have hix := HX.out i hlt
        have he := HE.out
        have hdr : prsT.drop i = prsT.getD i (0, 0, 0) :: prsT.drop (i + 1) := by
          have h1 : i < prsT.length := hlt
          rw [List.drop_eq_getElem_cons h1, List.getD_eq_getElem?_getD, List.getElem?_eq_getElem h1]
          rfl
        rw [hdr, prsF] at he
        obtain ⟨⟨a, b, c⟩, hp⟩ : ∃ p, p = prsT.getD i (0, 0, 0) := ⟨_, rfl⟩
        rw [← hp] at hix he
        simp only at hix he
        clear hp hdr
        have NB := Aside0.mk (show Below w.heap.size w (wr.alloc (.cells #[.int .i32 a, .int .i32 b, .int .i32 c] 236)) from below_then HB.out HB.out.size (below_alloc (Below.refl _ _) _))
        by_cases ha : a = r
        · have ha1 : (a == r) = true := by simpa using ha
          rw [if_pos ha] at he
          by_cases hc : c = 0
          · have hc1 : (c == 0) = true := by simpa using hc
            rw [if_pos hc] at he
            have HE1 := Aside0.mk he
            clear he ha hc
            go_wp2
            go_ret3
            exact ⟨by rw [HE1.out]; rfl, NB.out⟩
          · have hc1 : (c == 0) = false := by simpa using hc
            rw [if_neg hc] at he
            have HE1 := Aside0.mk he
            clear he ha hc
            go_wp2
            go_quiet (fail)
            go_wp2
            go_ret3
            exact ⟨by rw [HE1.out]; rfl, below_then NB.out NB.out.size ((Drawn0.refl _).step nq).below⟩
        · have ha1 : (a == r) = false := by simpa using ha
          rw [if_neg ha] at he
          have HE1 := Aside0.mk he
          clear he ha
          go_wp2
          go_roundw
          case rel => exact ⟨i + 1, by omega, by go_num, HE1, NB⟩
          case measure => simp [intOf]; omega
      · have hd : decide ((i : Int) < 31) = false := decide_eq_false (by omega)
        obtain rfl : i = 31 := by omega
        have HE1 := Aside0.mk (show pairU r = (0, 0, 0) from HE.out)
        go_wp2
        go_ret3
        exact ⟨by rw [HE1.out]; rfl, HB.out⟩
theorem PairP (w : World) (hG : G w) (r : Int) (hr : -2147483648 ≤ r ∧ r ≤ 2147483647) : Calls Tryz.prog 172 #[.int .i32 r] w (PairPost w r) := by
  by_cases h1 : 44032 ≤ r ∧ r ≤ 55203
  · have := PairSyl w (r - 44032).toNat (by omega)
    rw [show 44032 + ((r - 44032).toNat : Int) = r by omega] at this
    exact this
  · by_cases h2 : 256 ≤ r ∧ r < 384
    · have := PairMor w hG (r - 256).toNat (by omega)
      rw [show 256 + ((r - 256).toNat : Int) = r by omega] at this
      exact this
    · by_cases h3 : r < 192 ∨ 255 < r
      · exact PairTab w hG r hr h1 h2 h3
      · have := PairLat w hG (r - 192).toNat (by omega)
        rw [show 192 + ((r - 192).toNat : Int) = r by omega] at this
        exact this
end Go.Proofs.YtdambnclbpipdaaGreatDoor.Vc
namespace Go.Proofs.YtdambnclbpipdaaGreatDoor.X
set_option linter.unusedVariables false
set_option linter.unusedSimpArgs false
open Go.RowKit Go.Proofs.YtdambnclbpipdaaGreatDoorW.PrintWords
end Go.Proofs.YtdambnclbpipdaaGreatDoor.X
namespace Go.Proofs.YtdambnclbpipdaaGreatDoor.Vd
set_option linter.unusedVariables false
set_option linter.unusedSimpArgs false
open Go.RowKit Go.Proofs.YtdambnclbpipdaaGreatDoorW.PrintWords Go.Proofs.YtdambnclbpipdaaGreatDoor.Hp Go.Proofs.YtdambnclbpipdaaGreatDoor.Va Go.Proofs.YtdambnclbpipdaaGreatDoor.Vc
def decF : Nat → Int → List Int
  | 0, r => [r]
  | k + 1, r => if (pairU r).2.2 = 0 then [r] else if (pairU r).2.2 = 1 then decF k (pairU r).1 else decF k (pairU r).1 ++ decF k (pairU r).2.1
def okF : Nat → Int → Bool
  | 0, _ => false
  | k + 1, r => if (pairU r).2.2 = 0 then true else if (pairU r).2.2 = 1 then okF k (pairU r).1 else okF k (pairU r).1 && okF k (pairU r).2.1
def keys : List Int := (List.range 192).map (fun i : Nat => (192 : Int) + (i : Int)) ++ prsT.map (·.1)
theorem prsF_none (r : Int) : ∀ l : List (Int × Int × Int), r ∉ l.map (·.1) → prsF r l = (0, 0, 0)
  | [], _ => rfl
  | p :: t, h => by
    simp only [List.map_cons, List.mem_cons, not_or] at h
    rw [prsF, if_neg (fun e => h.1 e.symm), prsF_none r t h.2]
theorem pair_zero (r : Int) (hs : ¬ (44032 ≤ r ∧ r ≤ 55203)) (hk : r ∉ keys) : pairU r = (0, 0, 0) := by
  unfold keys at hk
  rw [List.mem_append, not_or] at hk
  have h1 : ¬ (192 ≤ r ∧ r < 384) := fun h => hk.1 (List.mem_map.2 ⟨(r - 192).toNat, List.mem_range.2 (by omega), by omega⟩)
  unfold pairU
  rw [if_neg hs, if_neg (by omega), if_pos (by omega)]
  exact prsF_none r _ hk.2
theorem syl_pair (s : Nat) (hs : s ≤ 11171) : pairU (44032 + (s : Int)) = if s % 28 = 0 then (4352 + ((s / 588 : Nat) : Int), 4449 + ((s % 588 / 28 : Nat) : Int), 2) else (44032 + (s : Int) - ((s % 28 : Nat) : Int), 4519 + ((s % 28 : Nat) : Int), 2) := by
  have e1 : 44032 + (s : Int) - 44032 = (s : Int) := by omega
  unfold pairU
  rw [if_pos ⟨by omega, by omega⟩, e1]
  by_cases h : s % 28 = 0
  · rw [if_pos (by omega), if_pos h]
    congr 1
  · rw [if_neg (by omega), if_neg h]
    congr 1
theorem cases3 (r : Int) : r ∈ keys ∨ (∃ s : Nat, s ≤ 11171 ∧ r = 44032 + (s : Int)) ∨ pairU r = (0, 0, 0) := by
  by_cases hk : r ∈ keys
  · exact .inl hk
  · by_cases hs : 44032 ≤ r ∧ r ≤ 55203
    · exact .inr (.inl ⟨(r - 44032).toNat, by omega, by omega⟩)
    · exact .inr (.inr (pair_zero r hs hk))
theorem jamo_none : ∀ k ∈ keys, k < 4352 ∨ 4546 < k := by decide +kernel
theorem jamo_zero (r : Int) (h : 4352 ≤ r ∧ r ≤ 4546) : pairU r = (0, 0, 0) := pair_zero r (by omega) (fun hk => by have := jamo_none r hk; omega)
theorem keys_pair : ∀ k ∈ keys, (0 ≤ (pairU k).1 ∧ (pairU k).1 < 65536) ∧ (0 ≤ (pairU k).2.1 ∧ (pairU k).2.1 < 65536) ∧ (0 ≤ (pairU k).2.2 ∧ (pairU k).2.2 < 3) ∧ okF 4 k = true := by decide +kernel
theorem okF_zero (k : Nat) (r : Int) (h : pairU r = (0, 0, 0)) : okF (k + 1) r = true := by rw [okF, h]; rfl
theorem decF_zero (k : Nat) (r : Int) (h : pairU r = (0, 0, 0)) : decF k r = [r] := by cases k with
  | zero => rfl
  | succ k => rw [decF, h]; rfl
theorem syl_lv (s : Nat) (hs : s ≤ 11171) (ht : s % 28 = 0) (k : Nat) : okF (k + 2) (44032 + (s : Int)) = true ∧ decF (k + 1) (44032 + (s : Int)) = [4352 + ((s / 588 : Nat) : Int), 4449 + ((s % 588 / 28 : Nat) : Int)] := by
  have h := syl_pair s hs
  rw [if_pos ht] at h
  have z1 := jamo_zero (4352 + ((s / 588 : Nat) : Int)) (by omega)
  have z2 := jamo_zero (4449 + ((s % 588 / 28 : Nat) : Int)) (by omega)
  rw [okF, decF, h]
  simp only [okF_zero _ _ z1, okF_zero _ _ z2, decF_zero _ _ z1, decF_zero _ _ z2]
  exact ⟨rfl, rfl⟩
theorem syl_all (s : Nat) (hs : s ≤ 11171) (k : Nat) : okF (k + 3) (44032 + (s : Int)) = true ∧ decF (k + 2) (44032 + (s : Int)) = [4352 + ((s / 588 : Nat) : Int), 4449 + ((s % 588 / 28 : Nat) : Int)] ++ if s % 28 = 0 then [] else [4519 + ((s % 28 : Nat) : Int)] := by
  by_cases ht : s % 28 = 0
  · have := syl_lv s hs ht (k + 1)
    rw [if_pos ht, List.append_nil]
    exact this
  · have h := syl_pair s hs
    rw [if_neg ht] at h ⊢
    have h1 := syl_lv (s - s % 28) (by omega) (by omega) k
    have z2 := jamo_zero (4519 + ((s % 28 : Nat) : Int)) (by omega)
    rw [show 44032 + ((s - s % 28 : Nat) : Int) = 44032 + (s : Int) - ((s % 28 : Nat) : Int) by omega, show (s - s % 28) / 588 = s / 588 by omega, show (s - s % 28) % 588 / 28 = s % 588 / 28 by omega] at h1
    rw [okF, decF, h]
    simp only [h1.1, h1.2, okF_zero _ _ z2, decF_zero _ _ z2]
    exact ⟨rfl, rfl⟩
theorem okAll (r : Int) : okF 4 r = true := by
  rcases cases3 r with h | ⟨s, hs, rfl⟩ | h
  · exact (keys_pair r h).2.2.2
  · exact (syl_all s hs 1).1
  · exact okF_zero _ _ h
def decU (r : Int) : List Int := decF 4 r
theorem pair_range (r : Int) : (0 ≤ (pairU r).1 ∧ (pairU r).1 < 65536) ∧ (0 ≤ (pairU r).2.1 ∧ (pairU r).2.1 < 65536) ∧ (0 ≤ (pairU r).2.2 ∧ (pairU r).2.2 < 3) := by
  rcases cases3 r with h | ⟨s, hs, rfl⟩ | h
  · have := keys_pair r h
    exact ⟨this.1, this.2.1, this.2.2.1⟩
  · rw [syl_pair s hs]
    split <;> simp only <;> omega
  · rw [h]; simp
theorem decF_len : ∀ (k : Nat) (r : Int), (decF k r).length ≤ 2 ^ k
  | 0, _ => by simp [decF]
  | k + 1, r => by
    have h1 := decF_len k (pairU r).1
    have h2 := decF_len k (pairU r).2.1
    have h3 : 0 < 2 ^ k := Nat.two_pow_pos k
    rw [decF, Nat.pow_succ]
    split
    · simp; omega
    · split
      · omega
      · rw [List.length_append]; omega
abbrev K3 : Kd Int := Kd.int .i32
theorem info_3 : (Tryz.prog.info? 21).map (fun i => (i.zero, i.size, i.bytes)) = some (some (.int .i32 0), 1, 4) := by kernel_rfl
theorem K3_KM {w w' : World} {base : Nat} {ok : Nat → Prop} (x : Int) (cs : List Value) (h : K3.K w x cs) : K3.M w' base ok x cs := h
def NewR (w : World) (l : List Int) (e : Ending) (w' : World) : Prop := ∃ v, e = .returned v ∧ K3.R 21 w' w.heap.size (fun _ => True) v l ∧ Below w.heap.size w w'
theorem lit1 {w : World} {B : Nat} (hB : B ≤ w.heap.size) (a : Int) : K3.R 21 (w.alloc (.cells #[.int .i32 a] 21)) B (fun _ => True) (.slice (some ⟨w.heap.size, 0, none⟩) 1 1) [a] := by
  refine ⟨fun _ _ => trivial, [.int .i32 a], ?_, Reps.one (show Kd.M K3 _ _ _ a [.int .i32 a] from rfl) (Reps.none _ _)⟩
  have h2 := World.ownsRow_lit (base := B) (e := 21) (size := 1) w #[.int .i32 a] 1 hB (by decide) rfl
  exact h2
set_option maxRecDepth 100000 in
set_option maxHeartbeats 1000000 in
theorem DecF : ∀ (k : Nat) (_ : k ≤ 4) (w : World) (_ : G w) (r : Int) (_ : -2147483648 ≤ r ∧ r ≤ 2147483647) (_ : okF k r = true), Calls Tryz.prog 147 #[.int .i32 r] w (NewR w (decF k r)) := by
  intro k
  induction k with
  | zero => intro hk4 w hG r hr ho; exact absurd ho (by simp [okF])
  | succ k ih =>
    intro hk4 w hG r hr ho
    have HG := Aside0.mk hG
    have HO := Aside0.mk ho
    have HI := Aside0.mk (ih (by omega))
    have HR := Aside0.mk hr
    have HP := Aside0.mk (pair_range r)
    have HD := Aside0.mk (show decF (k + 1) r = if (pairU r).2.2 = 0 then [r] else if (pairU r).2.2 = 1 then decF k (pairU r).1 else decF k (pairU r).1 ++ decF k (pairU r).2.1 from rfl)
    have HO1 := Aside0.mk (show okF (k + 1) r = if (pairU r).2.2 = 0 then true else if (pairU r).2.2 = 1 then okF k (pairU r).1 else okF k (pairU r).1 && okF k (pairU r).2.1 from rfl)
    clear hG ho ih hr
    have hPP := PairP w HG.out r HR.out
    unfold PairPost at hPP
    obtain ⟨⟨a, b, n⟩, hp⟩ : ∃ p, p = pairU r := ⟨_, rfl⟩
    rw [← hp] at hPP HP HD HO1
    have HPP := Aside0.mk hPP
    clear hPP hp
    simp only at HPP HP HD HO1
    obtain ⟨HP⟩ := HP
    obtain ⟨⟨a0, a1⟩, ⟨b0, b1⟩, n0, n1⟩ := HP
    by_cases h0 : n = 0
    · subst h0
      rw [HD.out, if_pos rfl]
      clear HD HO1 HO
      go_enter Tryz.func147, Tryz.ntmps147
      go_wp2_with (first | (go_at_call 172; go_must (refine HPP.out.mono ?_; rintro e w1 ⟨rfl, p1⟩; have P1 := Aside0.mk p1; clear p1)))
      go_ret
      exact ⟨_, rfl, lit1 P1.out.size r, below_then P1.out P1.out.size (below_alloc (Below.refl _ _) _)⟩
    · by_cases h1 : n = 1
      · subst h1
        have e0 : ((1 : Int) == 0) = false := rfl
        rw [HD.out, if_neg (by decide), if_pos rfl]
        have HO2 := Aside0.mk (show okF k a = true by have h := HO1.out; rw [if_neg (by decide), if_pos rfl] at h; rw [← h]; exact HO.out)
        clear HD HO1 HO
        go_enter Tryz.func147, Tryz.ntmps147
        go_wp2_with (first | (go_at_call 172; go_must (refine HPP.out.mono ?_; rintro e w1 ⟨rfl, p1⟩; have P1 := Aside0.mk p1; clear p1)) | (go_at_call 147; go_must (refine (HI.out w1 (HG.out.below P1.out) a ⟨by omega, by omega⟩ HO2.out).mono ?_; rintro e w2 ⟨v2, rfl, r2, p2⟩; have R2 := Aside0.mk r2; have P2 := Aside0.mk p2; clear r2 p2)))
        go_ret
        exact ⟨_, rfl, Kd.R_lower R2.out P1.out.size, below_then P1.out P1.out.size P2.out⟩
      · have h2 : n = 2 := by omega
        subst h2
        rw [HD.out, if_neg (by decide), if_neg (by decide)]
        have HO2 := Aside0.mk (show okF k a = true ∧ okF k b = true by have h := HO1.out; rw [if_neg (by decide), if_neg (by decide)] at h; rw [← Bool.and_eq_true, ← h]; exact HO.out)
        clear HD HO1 HO
        have la := decF_len k a
        have lb := decF_len k b
        obtain ⟨x, hx⟩ : ∃ x, x = decF k a := ⟨_, rfl⟩
        obtain ⟨y, hy⟩ : ∃ y, y = decF k b := ⟨_, rfl⟩
        have HL := Aside0.mk (show x.length + y.length ≤ 1000 by rw [hx, hy]; have := Nat.pow_le_pow_right (n := 2) (by decide) (show k ≤ 4 by omega); omega)
        have HA := Aside0.mk (fun w2 h => HI.out w2 h a ⟨by omega, by omega⟩ HO2.out.1)
        have HB := Aside0.mk (fun w2 h => HI.out w2 h b ⟨by omega, by omega⟩ HO2.out.2)
        rw [← hx] at HA ⊢
        rw [← hy] at HB ⊢
        clear hx hy la lb
        go_enter Tryz.func147, Tryz.ntmps147
        go_wp2_with (first | (go_at_call 172; go_must (refine HPP.out.mono ?_; rintro e w1 ⟨rfl, p1⟩; have P1 := Aside0.mk p1; clear p1)) | (go_at_call 147; refine (HA.out w1 (HG.out.below P1.out)).mono ?_; rintro e w2 ⟨v2, rfl, r2, p2⟩; have R2 := Aside0.mk r2; have P2 := Aside0.mk (below_then P1.out P1.out.size p2); clear r2 p2 HA) | (go_at_call 147; go_must (refine (HB.out w2 (HG.out.below P2.out)).mono ?_; rintro e w3 ⟨v3, rfl, r3, p3⟩; obtain ⟨A3, c3, rfl, hc3, hC3⟩ := Kd.R_reads r3; have C3 := Aside0.mk hC3; have R3 := Aside0.mk (Kd.R_below (Kd.R_lower R2.out P1.out.size) p3); have P3 := Aside0.mk (below_then P2.out P2.out.size p3); clear r3 p3 hC3)) | (at_builtin; go_must (refine Kd.R_append_rows K3 (Rr := K3.K w3) (w0 := w) w.heap.size rfl (.tmp 22) (.tmp 24) 167 21 (.int .i32 0) 4 rfl Tryz.underlying167 info_3 rfl (by decide) (by decide) v2 x y A3 _ c3 (fun _ => True) (fun _ => False) rfl rfl R3.out C3.out (fun x cs h => K3_KM x cs h) (fun _ h => h.elim) (fun _ _ => trivial) P3.out P3.out.size ?hl ?hh)))
        case hl => have := HL.out; omega
        case hh =>
          intro v1 w4 hR hb4 hg4 hat4
          have R4 := Aside0.mk hR
          have P4 := Aside0.mk hb4
          clear hR hb4 hg4 hat4
          go_wp2
          go_ret
          exact ⟨_, rfl, R4.out, P4.out⟩
theorem DecP (w : World) (hG : G w) (r : Int) (hr : -2147483648 ≤ r ∧ r ≤ 2147483647) : Calls Tryz.prog 147 #[.int .i32 r] w (NewR w (decU r)) := DecF 4 (by decide) w hG r hr (okAll r)
end Go.Proofs.YtdambnclbpipdaaGreatDoor.Vd
namespace Go.Proofs.YtdambnclbpipdaaGreatDoor.X
set_option linter.unusedVariables false
set_option linter.unusedSimpArgs false
open Go.RowKit Go.Proofs.YtdambnclbpipdaaGreatDoorW.PrintWords
def ucd_Decompose.f (a0 : Int) : Option (List Int) := if -2147483648 ≤ a0 ∧ a0 ≤ 2147483647 then some (Vd.decU a0) else none
theorem ucd_Decompose.calls (a0 : Int) (r : List Int) (w : World) (h : ucd_Decompose.f a0 = some r) (hG0 : Va.G w) : Calls Tryz.prog 147 #[.int .i32 a0] w fun e w' => ∃ v0_ : Value, e = .returned (v0_) ∧ Kd.R (Kd.int .i32) 21 w' w.heap.size (fun _ => True) v0_ r ∧ Below w.heap.size w w' := by
  unfold ucd_Decompose.f at h
  split at h
  · rename_i hr
    obtain rfl := Option.some.inj h
    exact Vd.DecP w hG0 a0 hr
  · cases h
end Go.Proofs.YtdambnclbpipdaaGreatDoor.X
namespace Go.Proofs.YtdambnclbpipdaaGreatDoor.Fr
set_option linter.unusedVariables false
set_option linter.unusedSimpArgs false
open Go.RowKit Go.Proofs.YtdambnclbpipdaaGreatDoorW.PrintWords Go.Proofs.YtdambnclbpipdaaGreatDoorW.PrintLast Go.Proofs.YtdambnclbpipdaaGreatDoorW.PrintMore Go.Proofs.YtdambnclbpipdaaGreatDoor.Hp Go.Proofs.YtdambnclbpipdaaGreatDoor.Va Go.Proofs.YtdambnclbpipdaaGreatDoor.Vd Go.Proofs.YtdambnclbpipdaaGreatDoor.Na Go.Proofs.YtdambnclbpipdaaGreatDoor.Nb Go.Proofs.YtdambnclbpipdaaGreatDoor.Nc Go.Proofs.YtdambnclbpipdaaGreatDoor.Ns Go.Proofs.YtdambnclbpipdaaGreatDoor.Ng Go.Proofs.YtdambnclbpipdaaGreatDoor.X
abbrev T3 : Nat := 21
abbrev K3 : Kd Int := Kd.int .i32
def Row (w : World) (A : Option Addr) (c : Nat) (l : List Int) : Prop := (A = none ∧ l = [] ∧ c = 0) ∨ ∃ g post, A = some ⟨g, 0, none⟩ ∧ Reg w g [] post l ∧ l.length ≤ c ∧ c ≤ maxLen
theorem Row.C {w : World} {A : Option Addr} {c : Nat} {l : List Int} (h : Row w A c l) (hm : l.length ≤ 9223372036854775807) : K3.C w A l.length l := by
  refine rdC ⟨rfl, hm, fun hp => ?_⟩
  rcases h with ⟨_, rfl, _⟩ | ⟨g, post, rfl, hR, _, _⟩
  · simp at hp
  · refine ⟨_, rfl, fun j hj => ?_⟩
    have := hR.at_ j hj
    rw [add_plain]
    simpa using this
section
variable {g base : Nat} {kept : List Int} {closed : Bool} {ok ok' : Nat → Prop} {w w1 : World}
end
theorem Row.of {w : World} {base : Nat} {ok : Nat → Prop} {v : Value} {xs : List Int} (h : K3.R T3 w base ok v xs) : ∃ A c, v = .slice A xs.length c ∧ xs.length ≤ c ∧ Row w A c xs ∧ ∀ ad, A = some ad → base ≤ ad.block ∧ ok ad.block := by
  rcases Reg.of_row (n := 0) (c := 0) h with ⟨rfl, n, rfl, rfl⟩ | ⟨g, cap, post, rfl, h1, h2, h3, h4, h5⟩
  · exact ⟨none, 0, rfl, Nat.zero_le _, .inl ⟨rfl, rfl, rfl⟩, fun _ h => by cases h⟩
  · exact ⟨_, _, rfl, h1, .inr ⟨g, post, rfl, h5, h1, h2⟩, fun ad had => by cases had; exact ⟨h4, h.1 g rfl⟩⟩
theorem Row.chg {S : Nat → Prop} {w w' : World} {A : Option Addr} {c : Nat} {l : List Int} (h : Row w A c l) (hc : Chg S w w') (hS : ∀ ad, A = some ad → ¬ S ad.block) : Row w' A c l := by
  rcases h with h | ⟨g, post, rfl, hR, h1, h2⟩
  · exact .inl h
  · exact .inr ⟨g, post, rfl, hR.chg hc (hS _ rfl), h1, h2⟩
end Go.Proofs.YtdambnclbpipdaaGreatDoor.Fr
namespace Go.Proofs.YtdambnclbpipdaaGreatDoor.X
open Go.RowKit Go.Proofs.YtdambnclbpipdaaGreatDoorW.PrintWords Go.Proofs.YtdambnclbpipdaaGreatDoorW.PrintLast Go.Proofs.YtdambnclbpipdaaGreatDoorW.PrintMore
attribute [local go_sem] max2_int min2_int max_two min_two max_three min_three max_four min_four   
set_option linter.unusedVariables false
set_option linter.unusedSimpArgs false
def ucd_Trailing.f (a0 : Int) : Option (Bool) := if a0 ≥ 4449 then (if a0 ≤ 4469 then (some true) else (if a0 ≥ 4520 then (some (decide (a0 ≤ 4546))) else (some false))) else (if a0 ≥ 4520 then (some (decide (a0 ≤ 4546))) else (some false))
set_option maxHeartbeats 8000000 in
set_option maxRecDepth 100000 in
theorem ucd_Trailing.calls (a0 : Int) (r : Bool) (w : World) (h : ucd_Trailing.f a0 = some r) :
  Calls Tryz.prog 171 #[.int .i32 a0] w fun e w' => e = .returned (.bool r) ∧ Drawn0 w w' := by
 have H : (if a0 ≥ 4449 then (if a0 ≤ 4469 then (some true) else (if a0 ≥ 4520 then (some (decide (a0 ≤ 4546))) else (some false))) else (if a0 ≥ 4520 then (some (decide (a0 ≤ 4546))) else (some false))) = some r := h
 clear h
 by_cases c2 : a0 ≥ 4449
 ·rw [if_pos c2] at H
  have c2b0 : decide (4449 ≤ a0) = true := decide_eq_true c2
  clear c2
  by_cases c3 : a0 ≤ 4469
  ·rw [if_pos c3] at H
   have c3b0 : decide (a0 ≤ 4469) = true := decide_eq_true c3
   clear c3
   obtain rfl := Option.some.inj H
   go_enter Tryz.func171, Tryz.ntmps171
   go_wp2
   go_ret
   exact ⟨by first | rfl | (simp; done) | (simp [*]; done), by repeat (first | exact Drawn0.refl _ | apply Drawn0.step)⟩
  ·rw [if_neg c3] at H
   have c3b0 : decide (a0 ≤ 4469) = false := decide_eq_false c3
   clear c3
   by_cases c4 : a0 ≥ 4520
   ·rw [if_pos c4] at H
    have c4b0 : decide (4520 ≤ a0) = true := decide_eq_true c4
    clear c4
    obtain rfl := Option.some.inj H
    go_enter Tryz.func171, Tryz.ntmps171
    go_wp2
    go_ret
    exact ⟨by first | rfl | (simp; done) | (simp [*]; done), by repeat (first | exact Drawn0.refl _ | apply Drawn0.step)⟩
   ·rw [if_neg c4] at H
    have c4b0 : decide (4520 ≤ a0) = false := decide_eq_false c4
    clear c4
    obtain rfl := Option.some.inj H
    go_enter Tryz.func171, Tryz.ntmps171
    go_wp2
    go_ret
    exact ⟨by first | rfl | (simp; done) | (simp [*]; done), by repeat (first | exact Drawn0.refl _ | apply Drawn0.step)⟩
 ·rw [if_neg c2] at H
  have c2b0 : decide (4449 ≤ a0) = false := decide_eq_false c2
  clear c2
  by_cases c5 : a0 ≥ 4520
  ·rw [if_pos c5] at H
   have c5b0 : decide (4520 ≤ a0) = true := decide_eq_true c5
   clear c5
   obtain rfl := Option.some.inj H
   go_enter Tryz.func171, Tryz.ntmps171
   go_wp2
   go_ret
   exact ⟨by first | rfl | (simp; done) | (simp [*]; done), by repeat (first | exact Drawn0.refl _ | apply Drawn0.step)⟩
  ·rw [if_neg c5] at H
   have c5b0 : decide (4520 ≤ a0) = false := decide_eq_false c5
   clear c5
   obtain rfl := Option.some.inj H
   go_enter Tryz.func171, Tryz.ntmps171
   go_wp2
   go_ret
   exact ⟨by first | rfl | (simp; done) | (simp [*]; done), by repeat (first | exact Drawn0.refl _ | apply Drawn0.step)⟩
end Go.Proofs.YtdambnclbpipdaaGreatDoor.X
namespace Go.Proofs.YtdambnclbpipdaaGreatDoor.Ve
set_option linter.unusedVariables false
set_option linter.unusedSimpArgs false
open Go.RowKit Go.Proofs.YtdambnclbpipdaaGreatDoorW.PrintWords Go.Proofs.YtdambnclbpipdaaGreatDoor.Hp Go.Proofs.YtdambnclbpipdaaGreatDoor.Va Go.Proofs.YtdambnclbpipdaaGreatDoor.Vc Go.Proofs.YtdambnclbpipdaaGreatDoor.Vd Go.Proofs.YtdambnclbpipdaaGreatDoor.X
def trl (r : Int) : Bool := decide (4449 ≤ r ∧ r ≤ 4469 ∨ 4520 ≤ r ∧ r ≤ 4546)
theorem trl_pure (r : Int) : ucd_Trailing.f r = some (trl r) := by
  unfold ucd_Trailing.f trl
  split
  · split
    · congr 1; symm; rw [decide_eq_true_eq]; omega
    · split
      · congr 1; rw [decide_eq_decide]; omega
      · congr 1; symm; rw [decide_eq_false_iff_not]; omega
  · split
    · congr 1; rw [decide_eq_decide]; omega
    · congr 1; symm; rw [decide_eq_false_iff_not]; omega
theorem TrailP (w : World) (r : Int) : Calls Tryz.prog 171 #[.int .i32 r] w fun e w' => e = .returned (.bool (trl r)) ∧ Below w.heap.size w w' :=
  (ucd_Trailing.calls r (trl r) w (trl_pure r)).mono fun _ _ h => ⟨h.1, h.2.below⟩
theorem decF_ne : ∀ (k : Nat) (r : Int), decF k r ≠ []
  | 0, _ => by simp [decF]
  | k + 1, r => by
    have := decF_ne k (pairU r).1
    rw [decF]
    split
    · simp
    · split
      · exact this
      · simp [this]
def opn (r : Int) : Bool := (cls ((decU r).getD 0 0) == 0) && !trl ((decU r).getD 0 0)
theorem intC {w : World} {A : Option Addr} {n : Nat} {xs : List Int} (h : K3.C w A n xs) (j : Nat) (hj : j < n) : ∃ ad, A = some ad ∧ w.cell? (ad.add j) = some (.int .i32 (xs.getD j 0)) := by
  have h1 := (rdint h).2.2 (by omega)
  obtain ⟨ad, h2, h3⟩ := h1
  exact ⟨ad, h2, h3 j hj⟩
theorem intC0 {w : World} {A : Option Addr} {n : Nat} {xs : List Int} (h : K3.C w A n xs) (hn : 0 < n) : ∃ ad, A = some ad ∧ w.cell? ad = some (.int .i32 (xs.getD 0 0)) := by
  obtain ⟨ad, h2, h3⟩ := intC h 0 hn
  exact ⟨ad, h2, h3⟩
set_option maxRecDepth 100000 in
set_option maxHeartbeats 1000000 in
theorem OpensP (w : World) (hG : G w) (r : Int) (hr : -2147483648 ≤ r ∧ r ≤ 2147483647) : Calls Tryz.prog 146 #[.int .i32 r] w fun e w' => e = .returned (.bool (opn r)) ∧ Below w.heap.size w w' := by
  have HG := Aside0.mk hG
  have HD := Aside0.mk (DecP w hG r hr)
  have HNE := Aside0.mk (decF_ne 4 r)
  have HO := Aside0.mk (show opn r = ((cls ((decU r).getD 0 0) == 0) && !trl ((decU r).getD 0 0)) from rfl)
  clear hG hr
  obtain ⟨l, hl⟩ : ∃ l, l = decU r := ⟨_, rfl⟩
  rw [show decF 4 r = decU r from rfl, ← hl] at HNE
  rw [← hl] at HD HO
  clear hl
  obtain ⟨n, hn⟩ : ∃ n, n = l.length := ⟨_, rfl⟩
  have hn0 : 0 < n := by rw [hn]; exact List.length_pos_iff.2 HNE.out
  obtain ⟨x, hx⟩ : ∃ x, x = l.getD 0 0 := ⟨_, rfl⟩
  rw [← hx] at HO
  have HN := Aside0.mk hn
  have HX := Aside0.mk hx
  clear hn hx
  cases hc : (cls x == 0) with
  | true =>
    rw [hc, Bool.true_and] at HO
    go_enter Tryz.func146, Tryz.ntmps146
    go_wp2_with (first | (go_at_call 147; go_must (refine HD.out.mono ?_; rintro e w1 ⟨v1, rfl, r1, p1⟩; obtain ⟨A1, c1, rfl, hc1, hC1⟩ := Kd.R_reads r1; have HB := Aside0.mk p1; rw [← HN.out] at hC1 ⊢; obtain ⟨ad, rfl, cell⟩ := intC0 hC1 hn0; rw [← HX.out] at cell; clear r1 p1 hC1 hc1)) | (go_at_call 170; go_must (refine (ClassP w1 (HG.out.below HB.out) x).mono ?_; rintro e w2 ⟨rfl, p2⟩; have HB2 := Aside0.mk (below_then HB.out HB.out.size p2); clear p2)) | (go_at_call 171; go_must (refine (TrailP w2 x).mono ?_; rintro e w3 ⟨rfl, p3⟩; have HB3 := Aside0.mk (below_then HB2.out HB2.out.size p3); clear p3)))
    go_ret
    exact ⟨by rw [HO.out]; rfl, HB3.out⟩
  | false =>
    rw [hc, Bool.false_and] at HO
    go_enter Tryz.func146, Tryz.ntmps146
    go_wp2_with (first | (go_at_call 147; go_must (refine HD.out.mono ?_; rintro e w1 ⟨v1, rfl, r1, p1⟩; obtain ⟨A1, c1, rfl, hc1, hC1⟩ := Kd.R_reads r1; have HB := Aside0.mk p1; rw [← HN.out] at hC1 ⊢; obtain ⟨ad, rfl, cell⟩ := intC0 hC1 hn0; rw [← HX.out] at cell; clear r1 p1 hC1 hc1)) | (go_at_call 170; go_must (refine (ClassP w1 (HG.out.below HB.out) x).mono ?_; rintro e w2 ⟨rfl, p2⟩; have HB2 := Aside0.mk (below_then HB.out HB.out.size p2); clear p2)))
    go_ret
    exact ⟨by rw [HO.out]; rfl, HB2.out⟩
end Go.Proofs.YtdambnclbpipdaaGreatDoor.Ve
namespace Go.Proofs.YtdambnclbpipdaaGreatDoor.X
set_option linter.unusedVariables false
set_option linter.unusedSimpArgs false
open Go.RowKit Go.Proofs.YtdambnclbpipdaaGreatDoorW.PrintWords
def ucd_Opens.f (a0 : Int) : Option Bool := if -2147483648 ≤ a0 ∧ a0 ≤ 2147483647 then some (Ve.opn a0) else none
theorem ucd_Opens.calls (a0 : Int) (r : Bool) (w : World) (h : ucd_Opens.f a0 = some r) (hG0 : Va.G w) : Calls Tryz.prog 146 #[.int .i32 a0] w fun e w' => e = .returned (.bool r) ∧ Below w.heap.size w w' := by
  unfold ucd_Opens.f at h
  split at h
  · rename_i hr
    obtain rfl := Option.some.inj h
    exact Ve.OpensP w hG0 a0 hr
  · cases h
end Go.Proofs.YtdambnclbpipdaaGreatDoor.X
namespace Go.Proofs.YtdambnclbpipdaaGreatDoor.Ev0
set_option linter.unusedVariables false
set_option linter.unusedSimpArgs false
open Go.RowKit Go.Proofs.YtdambnclbpipdaaGreatDoorW.PrintWords
theorem w64 {i : Nat} (h : i < 4611686018427387904) : wrap64 ((i : Int) + 1) = ((i + 1 : Nat) : Int) := by unfold wrap64; omega
theorem rd_nat {l : List Int} {i : Nat} (h : i < l.length) : rd l (i : Int) = l[i] := by simp [rd, List.getD_eq_getElem?_getD, List.getElem?_eq_getElem h]
theorem ev_range {α : Type} {F : Nat → Int → Option α} {n : Nat} {r : α} (hend : Ev (fun k => F k (n : Int)) r) (hstep : ∀ i : Nat, i < n → Ev (fun k => F k ((i + 1 : Nat) : Int)) r → Ev (fun k => F k (i : Int)) r) : ∀ i : Nat, i ≤ n → Ev (fun k => F k (i : Int)) r := by
  have key : ∀ d i : Nat, i + d = n → Ev (fun k => F k (i : Int)) r := by
    intro d
    induction d with
    | zero => intro i h; obtain rfl : i = n := by omega
              exact hend
    | succ d ih => intro i h; exact hstep i (by omega) (ih (i + 1) (by omega))
  intro i h
  exact key (n - i) i (by omega)
end Go.Proofs.YtdambnclbpipdaaGreatDoor.Ev0
namespace Go.Proofs.YtdambnclbpipdaaGreatDoor.Vp0
set_option linter.unusedVariables false
set_option linter.unusedSimpArgs false
open Go.RowKit Go.Proofs.YtdambnclbpipdaaGreatDoorW.PrintWords Go.Proofs.YtdambnclbpipdaaGreatDoor.Ev0 Go.Proofs.YtdambnclbpipdaaGreatDoor.X Go.Proofs.YtdambnclbpipdaaGreatDoor.Va Go.Proofs.YtdambnclbpipdaaGreatDoor.Vc Go.Proofs.YtdambnclbpipdaaGreatDoor.Vd Go.Proofs.YtdambnclbpipdaaGreatDoor.Ve
def I32 (x : Int) : Prop := -2147483648 ≤ x ∧ x ≤ 2147483647
theorem dec_zero (r : Int) (h : pairU r = (0, 0, 0)) : decU r = [r] := decF_zero 4 r h
theorem opn_zero (r : Int) (h : pairU r = (0, 0, 0)) : opn r = ((cls r == 0) && !trl r) := by unfold opn; rw [dec_zero r h]; rfl
def botB (r : Int) : Bool := decide (1 ≤ (decU r).length ∧ (decU r).length ≤ 3) && (decU r).all (fun x => decide ((pairU x) = (0, 0, 0)) && decide (0 ≤ x ∧ x < 65536)) && ((decU r).drop 1).all (fun x => !opn x)
theorem bot_keys : ∀ r ∈ keys, botB r = true := by decide +kernel
theorem jamo_shut (r : Int) (h : 4449 ≤ r ∧ r ≤ 4469 ∨ 4520 ≤ r ∧ r ≤ 4546) : opn r = false := by
  rw [opn_zero r (jamo_zero r (by omega))]
  have : trl r = true := by unfold trl; exact decide_eq_true h
  rw [this]; simp
theorem syl_dec (s : Nat) (hs : s ≤ 11171) : decU (44032 + (s : Int)) = [4352 + ((s / 588 : Nat) : Int), 4449 + ((s % 588 / 28 : Nat) : Int)] ++ if s % 28 = 0 then [] else [4519 + ((s % 28 : Nat) : Int)] := (syl_all s hs 2).2
structure Bot (r : Int) : Prop where
  lo : 1 ≤ (decU r).length
  hi : (decU r).length ≤ 3
  zero : ∀ x ∈ decU r, pairU x = (0, 0, 0)
  rng : ∀ x ∈ decU r, I32 x
  shut : ∀ x ∈ (decU r).drop 1, opn x = false
theorem bottom (r : Int) (hr : I32 r) : Bot r := by
  rcases cases3 r with h | ⟨s, hs, rfl⟩ | h
  · have := bot_keys r h
    simp only [botB, Bool.and_eq_true, decide_eq_true_eq, List.all_eq_true, Bool.not_eq_true'] at this
    obtain ⟨⟨⟨h1, h2⟩, h3⟩, h4⟩ := this
    exact ⟨h1, h2, fun x hx => (h3 x hx).1, fun x hx => by have := (h3 x hx).2; unfold I32; omega, h4⟩
  · have hd := syl_dec s hs
    have z1 := jamo_zero (4352 + ((s / 588 : Nat) : Int)) (by omega)
    have z2 := jamo_zero (4449 + ((s % 588 / 28 : Nat) : Int)) (by omega)
    have z3 := jamo_zero (4519 + ((s % 28 : Nat) : Int)) (by omega)
    by_cases ht : s % 28 = 0
    · rw [if_pos ht, List.append_nil] at hd
      refine ⟨by rw [hd]; simp, by rw [hd]; simp, ?_, ?_, ?_⟩
      · rw [hd]; intro x hx; simp at hx; rcases hx with rfl | rfl; exact z1; exact z2
      · rw [hd]; intro x hx; simp at hx; unfold I32; rcases hx with rfl | rfl <;> omega
      · rw [hd]; intro x hx; simp at hx; subst hx; exact jamo_shut _ (by omega)
    · rw [if_neg ht] at hd
      refine ⟨by rw [hd]; simp, by rw [hd]; simp, ?_, ?_, ?_⟩
      · rw [hd]; intro x hx; simp at hx; rcases hx with rfl | rfl | rfl; exact z1; exact z2; exact z3
      · rw [hd]; intro x hx; simp at hx; unfold I32; rcases hx with rfl | rfl | rfl <;> omega
      · rw [hd]; intro x hx; simp at hx; rcases hx with rfl | rfl <;> exact jamo_shut _ (by omega)
  · have hd := dec_zero r h
    refine ⟨by rw [hd]; simp, by rw [hd]; simp, ?_, ?_, ?_⟩
    · rw [hd]; intro x hx; simp at hx; subst hx; exact h
    · rw [hd]; intro x hx; simp at hx; subst hx; exact hr
    · rw [hd]; simp
theorem opn_first (r : Int) (hr : I32 r) : opn ((decU r).getD 0 0) = opn r := by
  have hb := bottom r hr
  have hm : (decU r).getD 0 0 ∈ decU r := by
    have := hb.lo
    rw [List.getD_eq_getElem?_getD, List.getElem?_eq_getElem (by omega)]
    exact List.getElem_mem _
  rw [opn_zero _ (hb.zero _ hm)]
  rfl
end Go.Proofs.YtdambnclbpipdaaGreatDoor.Vp0
namespace Go.Proofs.YtdambnclbpipdaaGreatDoor.Vin
set_option linter.unusedVariables false
set_option linter.unusedSimpArgs false
open Go.RowKit Go.Proofs.YtdambnclbpipdaaGreatDoorW.PrintWords Go.Proofs.YtdambnclbpipdaaGreatDoor.Hp Go.Proofs.YtdambnclbpipdaaGreatDoor.X
def inB (r lo hi : Int) : Bool := decide (lo ≤ r) && decide (r ≤ hi)
end Go.Proofs.YtdambnclbpipdaaGreatDoor.Vin
namespace Go.Proofs.YtdambnclbpipdaaGreatDoor.Vci
set_option linter.unusedVariables false
set_option linter.unusedSimpArgs false
open Go.RowKit Go.Proofs.YtdambnclbpipdaaGreatDoorW.PrintWords Go.Proofs.YtdambnclbpipdaaGreatDoor.Hp Go.Proofs.YtdambnclbpipdaaGreatDoor.X Go.Proofs.YtdambnclbpipdaaGreatDoor.Vin
def g0 : List (Int × Int) := [(768, 788), (829, 836), (838, 838), (842, 844), (848, 850), (855, 855), (8400, 8401)]
def g1 : List (Int × Int) := [(789, 789), (794, 794)]
def g2 : List (Int × Int) := [(790, 793), (796, 800), (803, 806), (809, 819), (825, 828), (839, 841), (845, 846), (851, 854)]
def g3 : List (Int × Int) := [(795, 795)]
def g4 : List (Int × Int) := [(801, 802), (807, 808)]
end Go.Proofs.YtdambnclbpipdaaGreatDoor.Vci
namespace Go.Proofs.YtdambnclbpipdaaGreatDoor.Vi
set_option linter.unusedVariables false
set_option linter.unusedSimpArgs false
open Go.RowKit Go.Proofs.YtdambnclbpipdaaGreatDoorW.PrintWords Go.Proofs.YtdambnclbpipdaaGreatDoor.Hp Go.Proofs.YtdambnclbpipdaaGreatDoor.Va Go.Proofs.YtdambnclbpipdaaGreatDoor.Vc Go.Proofs.YtdambnclbpipdaaGreatDoor.Vd Go.Proofs.YtdambnclbpipdaaGreatDoor.X
abbrev cmpS : ByteArray := ⟨#[195, 128, 195, 129, 195, 130, 195, 131, 195, 132, 195, 133, 195, 135, 195, 136, 195, 137, 195, 138, 195, 139, 195, 140, 195, 141, 195, 142, 195, 143, 195, 145, 195, 146, 195, 147, 195, 148, 195, 149, 195, 150, 195, 153, 195, 154, 195, 155, 195, 156, 195, 157, 195, 160, 195, 161, 195, 162, 195, 163, 195, 164, 195, 165, 195, 167, 195, 168, 195, 169, 195, 170, 195, 171, 195, 172, 195, 173, 195, 174, 195, 175, 195, 177, 195, 178, 195, 179, 195, 180, 195, 181, 195, 182, 195, 185, 195, 186, 195, 187, 195, 188, 195, 189, 195, 191, 196, 128, 196, 129, 196, 130, 196, 131, 196, 132, 196, 133, 196, 134, 196, 135, 196, 136, 196, 137, 196, 138, 196, 139, 196, 140, 196, 141, 196, 142, 196, 143, 196, 146, 196, 147, 196, 148, 196, 149, 196, 150, 196, 151, 196, 152, 196, 153, 196, 154, 196, 155, 196, 156, 196, 157, 196, 158, 196, 159, 196, 160, 196, 161, 196, 162, 196, 163, 196, 164, 196, 165, 196, 168, 196, 169, 196, 170, 196, 171, 196, 172, 196, 173, 196, 174, 196, 175, 196, 176, 196, 180, 196, 181, 196, 182, 196, 183, 196, 185, 196, 186, 196, 187, 196, 188, 196, 189, 196, 190, 197, 131, 197, 132, 197, 133, 197, 134, 197, 135, 197, 136, 197, 140, 197, 141, 197, 142, 197, 143, 197, 144, 197, 145, 197, 148, 197, 149, 197, 150, 197, 151, 197, 152, 197, 153, 197, 154, 197, 155, 197, 156, 197, 157, 197, 158, 197, 159, 197, 160, 197, 161, 197, 162, 197, 163, 197, 164, 197, 165, 197, 168, 197, 169, 197, 170, 197, 171, 197, 172, 197, 173, 197, 174, 197, 175, 197, 176, 197, 177, 197, 178, 197, 179, 197, 180, 197, 181, 197, 182, 197, 183, 197, 184, 197, 185, 197, 186, 197, 187, 197, 188, 197, 189, 197, 190]⟩
set_option maxRecDepth 100000 in
theorem CmpP (w : World) : Calls Tryz.prog 189 #[] w fun e w' => e = .returned (.string cmpS) ∧ w = w' := by
  go_enter Tryz.func189, Tryz.ntmps189
  go_wp2
  go_ret
  exact ⟨rfl, rfl⟩
end Go.Proofs.YtdambnclbpipdaaGreatDoor.Vi
namespace Go.Proofs.YtdambnclbpipdaaGreatDoor.X
set_option linter.unusedVariables false
set_option linter.unusedSimpArgs false
open Go.RowKit Go.Proofs.YtdambnclbpipdaaGreatDoorW.PrintWords
def tremaref02_Pair.f (a0 : Int) : Option (Int × Int × Int) := if -2147483648 ≤ a0 ∧ a0 ≤ 2147483647 then some (Vc.pairU a0) else none
end Go.Proofs.YtdambnclbpipdaaGreatDoor.X
namespace Go.Proofs.YtdambnclbpipdaaGreatDoor.X
open Go.RowKit Go.Proofs.YtdambnclbpipdaaGreatDoorW.PrintWords Go.Proofs.YtdambnclbpipdaaGreatDoorW.PrintLast Go.Proofs.YtdambnclbpipdaaGreatDoorW.PrintMore
attribute [local go_sem] max2_int min2_int max_two min_two max_three min_three max_four min_four   
set_option linter.unusedVariables false
set_option linter.unusedSimpArgs false
mutual
def tremaref02_Decompose.l0 : Nat → List Int → Option (List Int)
 | 0, _ => none
 | k + 1, x3 => tremaref02_Decompose.l1 k x3 (-1) 0 0 0 0
def tremaref02_Decompose.l1 : Nat → List Int → Int → Int → Int → Int → Int → Option (List Int)
 | 0, _, _, _, _, _, _ => none
 | k + 1, x3, x4, x5, x6, x7, x8 => if x8 < (x3.length : Int) then (tremaref02_Decompose.j2 k x3 x4 x5 x6 x7 x8 (decide (x4 < 0))) else (tremaref02_Decompose.j2 k x3 x4 x5 x6 x7 x8 false)
def tremaref02_Decompose.j2 : Nat → List Int → Int → Int → Int → Int → Int → Bool → Option (List Int)
 | 0, _, _, _, _, _, _, _ => none
 | k + 1, x3, x4, x5, x6, x7, x8, x23 => if x23 = true then (if 0 ≤ x8 then (if x8 < (x3.length : Int) then ((tremaref02_Pair.f (rd x3 x8)).bind fun bt133 => (if bt133.2.2 > 0 then (tremaref02_Decompose.l1 k x3 x8 bt133.1 bt133.2.1 bt133.2.2 (wrap64 (x8 + 1))) else (tremaref02_Decompose.l1 k x3 x4 x5 x6 x7 (wrap64 (x8 + 1))))) else (none)) else (none)) else (if x4 < 0 then (some x3) else (tremaref02_Decompose.l2 k x3 x4 x5 x6 x7 ([] : List Int) 0))
def tremaref02_Decompose.l2 : Nat → List Int → Int → Int → Int → Int → List Int → Int → Option (List Int)
 | 0, _, _, _, _, _, _, _ => none
 | k + 1, x3, x4, x5, x6, x7, x12, x13 => if x13 < (x3.length : Int) then (if x13 = x4 then (if x7 = 1 then (if x12.length < 35184372088832 then (tremaref02_Decompose.l2 k x3 x4 x5 x6 x7 (x12 ++ [x5]) (wrap64 (x13 + 1))) else (none)) else ((some (([x5, x6] : List Int) : List Int)).bind fun y139 => (if x12.length + y139.length < 35184372088832 then (tremaref02_Decompose.l2 k x3 x4 x5 x6 x7 (x12 ++ y139) (wrap64 (x13 + 1))) else (none)))) else (if 0 ≤ x13 then (if x12.length < 35184372088832 then (tremaref02_Decompose.l2 k x3 x4 x5 x6 x7 (x12 ++ [rd x3 x13]) (wrap64 (x13 + 1))) else (none)) else (none))) else (tremaref02_Decompose.l0 k x12)
end
def tremaref02_Decompose.f (k : Nat) (a0 : Int) : Option (List Int) := tremaref02_Decompose.l0 k (([a0] : List Int))
end Go.Proofs.YtdambnclbpipdaaGreatDoor.X
namespace Go.Proofs.YtdambnclbpipdaaGreatDoor.Vu
set_option linter.unusedVariables false
set_option linter.unusedSimpArgs false
open Go.RowKit Go.Proofs.YtdambnclbpipdaaGreatDoorW.PrintWords Go.Proofs.YtdambnclbpipdaaGreatDoor.Ev0 Go.Proofs.YtdambnclbpipdaaGreatDoor.X Go.Proofs.YtdambnclbpipdaaGreatDoor.Va Go.Proofs.YtdambnclbpipdaaGreatDoor.Vc Go.Proofs.YtdambnclbpipdaaGreatDoor.Vd Go.Proofs.YtdambnclbpipdaaGreatDoor.Ve Go.Proofs.YtdambnclbpipdaaGreatDoor.Vp0
def parts (x : Int) : List Int := if (pairU x).2.2 = 1 then [(pairU x).1] else [(pairU x).1, (pairU x).2.1]
theorem getLt {l : List Int} {i : Nat} (h : i < l.length) : (i : Int) < (l.length : Int) := by omega
theorem scan {l : List Int} {R : List Int} (hr : ∀ y ∈ l, I32 y) (hl : l.length ≤ 1000) (m : Nat) (hm : m ≤ l.length) (hz : ∀ i (h : i < m), (pairU (l[i]'(by omega))).2.2 = 0)
    (h : Ev (fun k => tremaref02_Decompose.l1 k l (-1) 0 0 0 (m : Int)) R) : Ev (fun k => tremaref02_Decompose.l0 k l) R := by
  refine Ev.step (fun k => tremaref02_Decompose.l0.eq_2 ..) ?_
  refine ev_range (n := m) (F := fun k i => tremaref02_Decompose.l1 k l (-1) 0 0 0 i) h (fun i hi ih => ?_) 0 (Nat.zero_le _)
  have hil : i < l.length := by omega
  have hy := hr _ (List.getElem_mem hil)
  unfold I32 at hy
  have hw := w64 (i := i) (by omega)
  have hzi := hz i hi
  refine Ev.step (fun k => tremaref02_Decompose.l1.eq_2 ..) ?_
  simp only [if_pos (getLt hil), show decide ((-1 : Int) < 0) = true from rfl]
  refine Ev.step (fun k => tremaref02_Decompose.j2.eq_2 ..) ?_
  simp only [if_true, if_pos (show (0 : Int) ≤ (i : Int) by omega), if_pos (getLt hil), rd_nat hil, tremaref02_Pair.f, if_pos hy, Option.bind_some, hzi, if_neg (show ¬ (0 : Int) > 0 by decide), hw]
  exact ih
theorem done {l : List Int} (hr : ∀ y ∈ l, I32 y) (hl : l.length ≤ 1000) (hz : ∀ y ∈ l, (pairU y).2.2 = 0) : Ev (fun k => tremaref02_Decompose.l0 k l) l := by
  refine scan hr hl l.length (Nat.le_refl _) (fun i h => hz _ (List.getElem_mem h)) ?_
  refine Ev.step (fun k => tremaref02_Decompose.l1.eq_2 ..) ?_
  simp only [if_neg (Int.lt_irrefl _)]
  refine Ev.step (fun k => tremaref02_Decompose.j2.eq_2 ..) ?_
  simp only [if_neg Bool.false_ne_true, if_pos (show (-1 : Int) < 0 by decide)]
  exact Ev.now _
def accU (p q : List Int) (x : Int) (i : Nat) : List Int := if i ≤ p.length then p.take i else p ++ parts x ++ q.take (i - p.length - 1)
theorem one {p q : List Int} {x : Int} {R : List Int} (hr : ∀ y ∈ p ++ [x] ++ q, I32 y) (hl : p.length + q.length ≤ 900) (hz : ∀ y ∈ p, (pairU y).2.2 = 0) (hx : (pairU x).2.2 = 1 ∨ (pairU x).2.2 = 2)
    (h : Ev (fun k => tremaref02_Decompose.l0 k (p ++ parts x ++ q)) R) : Ev (fun k => tremaref02_Decompose.l0 k (p ++ [x] ++ q)) R := by
  obtain ⟨l, hll⟩ : ∃ l, l = p ++ [x] ++ q := ⟨_, rfl⟩
  have hlen : l.length = p.length + 1 + q.length := by rw [hll]; simp; omega
  have hxx := hr x (by simp)
  unfold I32 at hxx
  have hpl : p.length < l.length := by omega
  have hpx : l[p.length]'hpl = x := by subst hll; simp
  have hpi : ∀ i (h : i < p.length), l[i]'(by omega) = p[i] := fun i h => by subst hll; simp [List.getElem_append, h]
  have hqi : ∀ i (h : i < q.length), l[p.length + 1 + i]'(by omega) = q[i] := fun i h => by
    subst hll
    rw [List.getElem_append_right (by simp)]
    congr 1
    simp
  rw [← hll] at hr ⊢
  clear hll
  refine scan hr (by omega) p.length (by omega) (fun i h => by rw [hpi i h]; exact hz _ (List.getElem_mem h)) ?_
  have hw := w64 (i := p.length) (by omega)
  refine Ev.step (fun k => tremaref02_Decompose.l1.eq_2 ..) ?_
  simp only [if_pos (getLt hpl), show decide ((-1 : Int) < 0) = true from rfl]
  refine Ev.step (fun k => tremaref02_Decompose.j2.eq_2 ..) ?_
  simp only [if_true, if_pos (show (0 : Int) ≤ (p.length : Int) by omega), if_pos (getLt hpl), rd_nat hpl, hpx, tremaref02_Pair.f, if_pos hxx, Option.bind_some, if_pos (show (pairU x).2.2 > 0 by omega), hw]
  have key : Ev (fun k => tremaref02_Decompose.j2 k l (p.length : Int) (pairU x).1 (pairU x).2.1 (pairU x).2.2 ((p.length + 1 : Nat) : Int) false) R := by
    refine Ev.step (fun k => tremaref02_Decompose.j2.eq_2 ..) ?_
    simp only [if_neg Bool.false_ne_true, if_neg (show ¬ (p.length : Int) < 0 by omega)]
    have start : accU p q x (0 : Int).toNat = [] := by simp [accU]
    have hacc : ∀ i, (accU p q x i).length ≤ 1000 := fun i => by
      unfold accU parts
      split
      · rw [List.length_take]; omega
      · split <;> simp <;> omega
    have loop := ev_range (n := l.length) (r := R) (F := fun k i => tremaref02_Decompose.l2 k l (p.length : Int) (pairU x).1 (pairU x).2.1 (pairU x).2.2 (accU p q x i.toNat) i) ?_ ?_ 0 (Nat.zero_le _)
    · have := loop
      simp only [Int.natCast_zero, start] at this
      exact this
    · refine Ev.step (fun k => tremaref02_Decompose.l2.eq_2 ..) ?_
      simp only [if_neg (Int.lt_irrefl _), Int.toNat_natCast]
      have he : accU p q x l.length = p ++ parts x ++ q := by
        unfold accU
        rw [if_neg (by omega), hlen, show p.length + 1 + q.length - p.length - 1 = q.length by omega, List.take_length]
      rw [he]
      exact h
    · intro i hi ih
      have hwi := w64 (i := i) (by omega)
      simp only [Int.toNat_natCast] at ih ⊢
      have ha := hacc i
      refine Ev.step (fun k => tremaref02_Decompose.l2.eq_2 ..) ?_
      simp only [if_pos (getLt hi), hwi]
      by_cases e : i = p.length
      · have ea : accU p q x (i + 1) = accU p q x i ++ parts x := by
          subst e
          unfold accU
          rw [if_neg (by omega), if_pos (Nat.le_refl _)]
          simp
        rw [ea] at ih
        simp only [if_pos (show (i : Int) = (p.length : Int) by omega)]
        rcases hx with h1 | h2
        · have hp : parts x = [(pairU x).1] := by unfold parts; rw [if_pos h1]
          rw [hp] at ih
          simp only [if_pos h1, if_pos (show (accU p q x i).length < 35184372088832 by omega)]
          exact ih
        · have hp : parts x = [(pairU x).1, (pairU x).2.1] := by unfold parts; rw [if_neg (by omega)]
          rw [hp] at ih
          simp only [if_neg (show ¬ (pairU x).2.2 = 1 by omega), Option.bind_some, if_pos (show (accU p q x i).length + ([(pairU x).1, (pairU x).2.1] : List Int).length < 35184372088832 by simp; omega)]
          exact ih
      · have ea : accU p q x (i + 1) = accU p q x i ++ [l[i]] := by
          unfold accU
          by_cases e2 : i < p.length
          · rw [if_pos (by omega), if_pos (by omega), hpi i e2, List.take_succ_eq_append_getElem e2]
          · obtain ⟨j, rfl⟩ : ∃ j, i = p.length + 1 + j := ⟨i - p.length - 1, by omega⟩
            have hj : j < q.length := by omega
            rw [if_neg (by omega), if_neg (by omega), hqi j hj, show p.length + 1 + j + 1 - p.length - 1 = j + 1 by omega, show p.length + 1 + j - p.length - 1 = j by omega, List.take_succ_eq_append_getElem hj]
            simp
        rw [ea] at ih
        simp only [if_neg (show ¬ (i : Int) = (p.length : Int) by omega), if_pos (show (0 : Int) ≤ (i : Int) by omega), if_pos (show (accU p q x i).length < 35184372088832 by omega), rd_nat hi]
        exact ih
  refine Ev.step (fun k => tremaref02_Decompose.l1.eq_2 ..) ?_
  by_cases hc : ((p.length + 1 : Nat) : Int) < (l.length : Int)
  · simp only [if_pos hc, decide_eq_false (show ¬ (p.length : Int) < 0 by omega)]
    exact key
  · simp only [if_neg hc]
    exact key
end Go.Proofs.YtdambnclbpipdaaGreatDoor.Vu
namespace Go.Proofs.YtdambnclbpipdaaGreatDoor.X
open Go.RowKit Go.Proofs.YtdambnclbpipdaaGreatDoorW.PrintWords Go.Proofs.YtdambnclbpipdaaGreatDoorW.PrintLast Go.Proofs.YtdambnclbpipdaaGreatDoorW.PrintMore
attribute [local go_sem] max2_int min2_int max_two min_two max_three min_three max_four min_four   
set_option linter.unusedVariables false
set_option linter.unusedSimpArgs false
def norm_Normal.l0 : Nat → List Int → List Int → Int → Int → Option (List Int)
 | 0, _, _, _, _ => none
 | k + 1, x3, x6, x7, x8 => if x8 < x7 then (if 0 ≤ x8 then (if x8 < (x6.length : Int) then ((ucd_Decompose.f (rd x6 x8)).bind fun t230 => (if x3.length + t230.length < 35184372088832 then (norm_Normal.l0 k (x3 ++ t230) x6 x7 (wrap64 (x8 + 1))) else (none))) else (none)) else (none)) else ((norm_ordered.f x3).bind fun t236 => (some t236))
def norm_Normal.f (k : Nat) (l0 : List Int) : Option (List Int) := norm_Normal.l0 k ([] : List Int) l0 (l0.length : Int) 0
theorem norm_Normal.mono_l : ∀ k, (∀ y0 y1 y2 y3, LeO (norm_Normal.l0 k y0 y1 y2 y3) (norm_Normal.l0 (k + 1) y0 y1 y2 y3))
 | 0 => fun _ _ _ _ r h => by simp [norm_Normal.l0] at h
 | k + 1 => by
  have ih0 := norm_Normal.mono_l k
  ·intro y0 y1 y2 y3
   unfold norm_Normal.l0
   repeat' first
   | (with_reducible exact ih0 _ _ _ _)
   | (with_reducible exact LeO.refl _)
   | (with_reducible exact LeO.none _)
   | (with_reducible refine LeO.ite ?_ ?_)
   | (with_reducible refine LeO.bind ?_ (fun _ => ?_))
   | exact ih0 _ _ _ _
   | exact LeO.none _
   | refine LeO.ite ?_ ?_
   | refine LeO.bind ?_ (fun _ => ?_)
theorem norm_Normal.mono : ∀ a0 k, LeO (norm_Normal.f k a0) (norm_Normal.f (k + 1) a0) := by
 intro a0 k
 have ih0 := norm_Normal.mono_l k
 unfold norm_Normal.f
 repeat' first
   | (with_reducible exact ih0 _ _ _ _)
   | (with_reducible exact LeO.refl _)
   | (with_reducible exact LeO.none _)
   | (with_reducible refine LeO.ite ?_ ?_)
   | (with_reducible refine LeO.bind ?_ (fun _ => ?_))
   | exact ih0 _ _ _ _
   | exact LeO.none _
   | refine LeO.ite ?_ ?_
   | refine LeO.bind ?_ (fun _ => ?_)
set_option maxHeartbeats 8000000 in
set_option maxRecDepth 100000 in
theorem norm_Normal.calls (k : Nat) (A0 : Option Addr) (c0 : Nat) (l0 : List Int) (r : List Int) (w : World) (hr0 : Kd.C (Kd.int .i32) w A0 l0.length l0) (hc0 : l0.length ≤ c0) (h : norm_Normal.f k l0 = some r) (hG0 : Va.G w) :
  Calls Tryz.prog 113 #[.slice A0 l0.length c0] w fun e w' => ∃ v0_ : Value, e = .returned (v0_) ∧ Kd.R (Kd.int .i32) 21 w' w.heap.size (fun _ => True) v0_ r ∧ Below w.heap.size w w' := by
 have HG := Aside0.mk hG0
 clear hG0
 have HR0 := Aside0.mk hr0
 have HC0 := Aside0.mk hc0
 clear hr0 hc0
 have HB := Aside0.mk (Below.refl w.heap.size w)
 have H : (norm_Normal.l0 k ([] : List Int) l0 (l0.length : Int) 0) = some r := h
 clear h
 have H' := Aside0.mk H
 clear H
 go_enter Tryz.func113, Tryz.ntmps113
 go_wp2
 go_loopg [3, 8] k (fun kq v3 v8 w' => ∃ (x3_1 : List Int) (x8_1 : Int), v8 = .int .i64 x8_1 ∧ Aside0 (norm_Normal.l0 kq x3_1 l0 (l0.length : Int) x8_1 = some r) ∧ Aside0 (kq ≤ k) ∧ Aside0 (Kd.R (Kd.int .i32) 21 w' w.heap.size (fun _ => True) v3 x3_1) ∧ Aside0 (Below w.heap.size w w'))
 case atStart => exact ⟨(([] : List Int)), (0), (by first | rfl | (simp; done) | (simp [*]; done)), H', ⟨Nat.le_refl _⟩, ⟨by first | exact Kd.R_nil _ _ _ _ _ | exact Kd.N_nil _ _ _ _ _ | exact Kd.V_nil _ _ _ _ _ | exact Kd.Q_nil _ _ _ _ _ | exact Kd.S_nil _ _ _ _ _⟩, ⟨by repeat (first | (with_reducible first | exact HB.out | apply below_alloc | apply pw_below_drewN | apply below_drew1) | exact HB.out)⟩⟩
 case round =>
  clear H'
  try clear c1
  obtain ⟨x3_1, x8_1, rfl, HA, HK1, HO_3, HB⟩ := hrel
  cases gk with
  | zero => exact absurd HA.out (by simp [norm_Normal.l0])
  | succ k1 =>
   have H := HA.out
   clear HA
   simp only [norm_Normal.l0] at H
   by_cases c2 : x8_1 < (l0.length : Int)
   ·rw [if_pos c2] at H
    have c2b0 : decide (x8_1 < (l0.length : Int)) = true := decide_eq_true c2
    clear c2
    by_cases c3 : 0 ≤ x8_1
    ·rw [if_pos c3] at H
     have c3b0 : decide (0 ≤ x8_1) = true := decide_eq_true c3
     clear c3
     by_cases c4 : x8_1 < (l0.length : Int)
     ·rw [if_pos c4] at H
      have c4b0 : decide (x8_1 < (l0.length : Int)) = true := decide_eq_true c4
      clear c4
      replace H := Option.bind_eq_some_iff.mp H
      obtain ⟨t230, A50, H⟩ := H
      replace H : (if x3_1.length + t230.length < 35184372088832 then (norm_Normal.l0 k1 (x3_1 ++ t230) l0 (l0.length : Int) (wrap64 (x8_1 + 1))) else (none)) = some r := H
      have A5 := Aside0.mk A50
      clear A50
      by_cases c6 : x3_1.length + t230.length < 35184372088832
      ·rw [if_pos c6] at H
       have LMc6 := Aside0.mk c6
       clear c6
       obtain ⟨y233, hy233⟩ : ∃ y_ : List Int, y_ = (x3_1 ++ t230) := ⟨_, rfl⟩
       replace H : (norm_Normal.l0 k1 y233 l0 (l0.length : Int) (wrap64 (x8_1 + 1))) = some r := by first | (rw [hy233]; with_reducible exact H) | (have H2_ := (Option.bind_some _ _).symm.trans H; rw [hy233]; with_reducible exact H2_) | (have H2_ := (Option.bind_some _ _).symm.trans H; with_reducible exact H2_) | with_reducible exact H | (rw [hy233]; exact H) | exact H
       have Ny233 := Aside0.mk hy233
       clear hy233
       have H' := Aside0.mk H
       clear H
       have p229 : 0 ≤ (x8_1 : Int) := of_decide_eq_true (by first | (with_reducible assumption) | assumption)
       have q229 : x8_1 < (l0.length : Int) := of_decide_eq_true (by first | (with_reducible assumption) | assumption)
       obtain ⟨ad229, e229, hx229_0⟩ := Kd.at_int HR0.out x8_1 p229 q229
       cases e229
       replace hx229_0 := (HB.out.cell (World.block_lt_of_cell? w _ hx229_0)).trans hx229_0
       replace p229 := eq_true p229
       replace q229 := eq_true q229
       go_wp2_with (first | ((with_reducible refine gate_callee (f := 147) rfl ?_); refine goesL_ (some 14) rfl rfl Tryz.func147 (by kernel_rfl) rfl #[.int .i32 (rd l0 x8_1)] rfl (by (try simp only [List.map_toArray, List.map_cons, List.map_nil]); first | done | rfl | (simp only [List.length_drop, List.length_take]; rfl)) ?_; (with_reducible refine (ucd_Decompose.calls (rd l0 x8_1) t230 _ A5.out (by first | exact HG.out | exact Va.G.below HG.out (by repeat (first | (with_reducible first | exact HB.out | apply below_alloc | apply pw_below_drewN | apply below_drew1) | exact HB.out)))).mono ?_); rintro e w7 ⟨v231, rfl, ho0, hb⟩; refine ⟨_, rfl, ?_⟩; have n0_ := Aside0.mk (Kd.R_elder' (by (with_reducible repeat (first | apply Kd.R_alloc | apply Kd.R_drewN | apply Kd.R_drew)); exact HO_3.out) (Kd.R_base ho0) hb); have n1_ := Aside0.mk (Kd.R_lower (Kd.R_new' ho0 (Kd.R_lt (by (with_reducible repeat (first | apply Kd.R_alloc | apply Kd.R_drewN | apply Kd.R_drew)); exact HO_3.out))) (below_size (by repeat (first | (with_reducible first | exact HB.out | apply below_alloc | apply pw_below_drewN | apply below_drew1) | exact HB.out)))); have n2_ := Aside0.mk (below_step (by repeat (first | (with_reducible first | exact HB.out | apply below_alloc | apply pw_below_drewN | apply below_drew1) | exact HB.out)) hb); clear HO_3; clear HB; have HO_3 := n0_; have HO232 := n1_; have HB := n2_; clear n0_ n1_ n2_; (try clear hb); (try clear hb2); (try clear hk); (try clear hi); (try clear ho0); obtain ⟨Ao9, co9, eo9⟩ := Kd.R_slice HO232.out; subst eo9) | ((with_reducible refine gate_builtin (b := .append) (xs := #[.tmp 12, .tmp 14]) rfl ?_); at_builtin; refine Kd.R_append_rows (Kd.int .i32) (w0 := w) w.heap.size rfl (.tmp 12) (.tmp 14) 167 21 (.int .i32 0) 4 rfl Tryz.underlying167 info21 rfl (by decide) (by omega) u3 x3_1 t230 _ _ _ (fun k_ => some k_ ≠ (.slice Ao9 t230.length co9 : Value).ownBlock) (fun _ => False) rfl rfl ?aO ?aR (fun _ _ h => h) (fun _ h => h.elim) ?aF ?aB ?aS ?aL ?_; (case aR => repeat (first | exact (Kd.R_reads' HO232.out).2.2 | (with_reducible refine Kd.C_alloc ?_ _) | (with_reducible refine Kd.C_drewN ?_ _) | (with_reducible refine Kd.C_drew ?_))); (case aB => exact (by repeat (first | (with_reducible first | exact HB.out | apply below_alloc | apply pw_below_drewN | apply below_drew1) | exact HB.out))); (case aF => exact (fun k_ hk => Kd.fresh' (Kd.R_lt (by (with_reducible repeat (first | apply Kd.R_alloc | apply Kd.R_drewN | apply Kd.R_drew)); exact HO232.out)) k_ hk)); (case aO => exact (by (with_reducible repeat (first | apply Kd.R_alloc | apply Kd.R_drewN | apply Kd.R_drew)); exact Kd.R_mono HO_3.out (fun _ hk => hk.2))); (case aS => exact (below_size (by repeat (first | (with_reducible first | exact HB.out | apply below_alloc | apply pw_below_drewN | apply below_drew1) | exact HB.out)))); (case aL => have := LMc6.out; omega); intro v234 w8 ho hb hg hat; rw [← Ny233.out] at ho; have n0_ := Aside0.mk (Kd.R_after (ok := (fun _ => True)) (by (with_reducible repeat (first | apply Kd.R_alloc | apply Kd.R_drewN | apply Kd.R_drew)); exact HO232.out) hg hat); have n1_ := Aside0.mk (hb); have n2_ := Aside0.mk (ho); clear HO232; clear HB; clear HO_3; have HO232 := n0_; have HB := n1_; have HO235 := n2_; clear n0_ n1_ n2_; clear ho hb hg hat))
       go_roundg k1
       case measure => have := HK1.out; omega
       case rel => exact ⟨(y233), (wrap64 (x8_1 + 1)), (by first | rfl | (simp; done) | (simp [*]; done)), H', ⟨by have := HK1.out; omega⟩, ⟨by (with_reducible repeat (first | apply Kd.R_alloc | apply Kd.R_drewN | apply Kd.R_drew)); exact Kd.R_mono HO235.out (fun _ hk => trivial)⟩, ⟨by repeat (first | (with_reducible first | exact HB.out | apply below_alloc | apply pw_below_drewN | apply below_drew1) | exact HB.out)⟩⟩
      ·rw [if_neg c6] at H
       exact absurd H (by simp)
     ·rw [if_neg c4] at H
      exact absurd H (by simp)
    ·rw [if_neg c3] at H
     exact absurd H (by simp)
   ·rw [if_neg c2] at H
    have c2b0 : decide (x8_1 < (l0.length : Int)) = false := decide_eq_false c2
    clear c2
    replace H := Option.bind_eq_some_iff.mp H
    obtain ⟨t236, A100, H⟩ := H
    replace H : (some t236) = some r := H
    have A10 := Aside0.mk A100
    clear A100
    obtain rfl := Option.some.inj H
    obtain ⟨Ao11, co11, eo11⟩ := Kd.R_slice HO_3.out
    subst eo11
    go_wp2_with (first | ((with_reducible refine gate_callee (f := 150) rfl ?_); refine goesL_ (some 18) rfl rfl Tryz.func150 (by kernel_rfl) rfl #[.slice Ao11 x3_1.length co11] rfl (by (try simp only [List.map_toArray, List.map_cons, List.map_nil]); first | done | rfl | (simp only [List.length_drop, List.length_take]; rfl)) ?_; (with_reducible refine (norm_ordered.calls (fun k_ => some k_ = (.slice Ao11 x3_1.length co11 : Value).ownBlock) (.slice Ao11 x3_1.length co11) x3_1 t236 w _ ?side1 ?side2 A10.out (by first | exact HG.out | exact Va.G.below HG.out (by repeat (first | (with_reducible first | exact HB.out | apply below_alloc | apply pw_below_drewN | apply below_drew1) | exact HB.out)))).mono ?_); (case side1 => repeat (first | (with_reducible first | exact HB.out | apply below_alloc | apply pw_below_drewN | apply below_drew1) | exact HB.out)); (case side2 => exact Kd.R_tight rfl HO_3.out); rintro e w12 ⟨v237, rfl, ho0, hb, hkp⟩; refine ⟨_, rfl, ?_⟩; have n0_ := Aside0.mk (Kd.R_mono (ok' := fun k_ => True) ho0 (fun k_ hk_ => trivial)); have n1_ := Aside0.mk (hb); clear HB; clear HO_3; have HO238 := n0_; have HB := n1_; clear n0_ n1_; (try clear hb); (try clear hkp); (try clear ho0)))
    go_ret
    exact ⟨_, by first | rfl | (simp [errW_none, errW_some] <;> rfl) | (simp [*, errW_none, errW_some] <;> rfl), by (with_reducible repeat (first | apply Kd.R_alloc | apply Kd.R_drewN | apply Kd.R_drew)); exact HO238.out, by repeat (first | (with_reducible first | exact HB.out | apply below_alloc | apply pw_below_drewN | apply below_drew1) | exact HB.out)⟩
end Go.Proofs.YtdambnclbpipdaaGreatDoor.X
namespace Go.Proofs.YtdambnclbpipdaaGreatDoor.Oa
set_option linter.unusedVariables false
set_option linter.unusedSimpArgs false
open Go.Proofs.YtdambnclbpipdaaGreatDoor.Vd (decU)
open Go.RowKit Go.Proofs.YtdambnclbpipdaaGreatDoorW.PrintWords Go.Proofs.YtdambnclbpipdaaGreatDoor.Ev0 Go.Proofs.YtdambnclbpipdaaGreatDoor.X Go.Proofs.YtdambnclbpipdaaGreatDoor.Va Go.Proofs.YtdambnclbpipdaaGreatDoor.Vc Go.Proofs.YtdambnclbpipdaaGreatDoor.Ve Go.Proofs.YtdambnclbpipdaaGreatDoor.Vp0 Go.Proofs.YtdambnclbpipdaaGreatDoor.Vu Go.Proofs.YtdambnclbpipdaaGreatDoor.Na
def flat (l : List Int) : List Int := l.flatMap decU
def nrm (l : List Int) : List Int := ordL (flat l)
theorem flat_cons (x : Int) (l : List Int) : flat (x :: l) = decU x ++ flat l := List.flatMap_cons ..
theorem flat_app (a b : List Int) : flat (a ++ b) = flat a ++ flat b := List.flatMap_append ..
theorem dec_len3 (x : Int) (hx : I32 x) : (decU x).length ≤ 3 := (bottom x hx).hi
theorem flat_len (l : List Int) (hl : ∀ x ∈ l, I32 x) : (flat l).length ≤ 3 * l.length := by
  induction l with
  | nil => simp [flat]
  | cons x t ih =>
    have := ih (fun y hy => hl y (List.mem_cons_of_mem _ hy))
    have := dec_len3 x (hl x (List.mem_cons_self ..))
    rw [flat_cons, List.length_append, List.length_cons]
    omega
def Rd : List Int → Prop
  | [] => True
  | [_] => True
  | y :: x :: t => (cls y = 0 ∨ cls x ≤ cls y) ∧ Rd (x :: t)
theorem Rd.tail {x : Int} {t : List Int} (h : Rd (x :: t)) : Rd t := by
  cases t with
  | nil => trivial
  | cons y t => exact h.2
theorem ins_rd (x : Int) : ∀ r, Rd r → Rd (ins x r)
  | [], _ => trivial
  | [y], _ => by
    rw [ins]
    split
    · rename_i h; exact ⟨.inr (Int.le_of_lt h.2), trivial⟩
    · rename_i h
      refine ⟨?_, trivial⟩
      rcases Classical.em (cls x = 0) with h0 | h0
      · exact .inl h0
      · exact .inr (Int.not_lt.1 fun k => h ⟨h0, k⟩)
  | y :: z :: r, h => by
    rw [ins]
    split
    · rename_i h1
      have h2 := ins_rd x (z :: r) h.2
      rw [ins] at h2 ⊢
      split
      · rename_i h3; rw [if_pos h3] at h2; exact ⟨h.1, h2⟩
      · rename_i h3; rw [if_neg h3] at h2; exact ⟨.inr (Int.le_of_lt h1.2), h2⟩
    · rename_i h1
      refine ⟨?_, h⟩
      rcases Classical.em (cls x = 0) with h0 | h0
      · exact .inl h0
      · exact .inr (Int.not_lt.1 fun k => h1 ⟨h0, k⟩)
theorem ordR_rd (l : List Int) : Rd (ordR l) := by
  have key : ∀ (l r : List Int), Rd r → Rd (l.foldl (fun acc x => ins x acc) r) := by
    intro l
    induction l with
    | nil => exact fun r h => h
    | cons x t ih => exact fun r h => ih _ (ins_rd x r h)
  exact key l [] trivial
theorem ins_id {x : Int} {r : List Int} (h : Rd (x :: r)) : ins x r = x :: r := by
  cases r with
  | nil => rfl
  | cons y r =>
    rw [ins, if_neg]
    intro k
    rcases h.1 with h0 | h0
    · exact k.1 h0
    · exact absurd k.2 (Int.not_lt.2 h0)
theorem ordR_snoc (l : List Int) (x : Int) : ordR (l ++ [x]) = ins x (ordR l) := by unfold ordR; rw [List.foldl_append]; rfl
theorem ordR_id : ∀ r : List Int, Rd r → ordR r.reverse = r
  | [], _ => rfl
  | x :: r, h => by rw [List.reverse_cons, ordR_snoc, ordR_id r h.tail, ins_id h]
theorem ordL_id (l : List Int) : ordL (ordL l) = ordL l := by
  show (ordR (ordR l).reverse).reverse = _
  rw [ordR_id _ (ordR_rd l)]
  rfl
theorem dec_bot (x : Int) (hx : I32 x) : ∀ y ∈ decU x, decU y = [y] ∧ I32 y := fun y hy =>
  ⟨dec_zero y ((bottom x hx).zero y hy), (bottom x hx).rng y hy⟩
theorem flat_bot (l : List Int) (hl : ∀ x ∈ l, I32 x) : ∀ y ∈ flat l, decU y = [y] ∧ I32 y := fun y hy => by
  obtain ⟨x, hx, hy⟩ := List.mem_flatMap.1 hy
  exact dec_bot x (hl x hx) y hy
theorem nrm_bot (l : List Int) (hl : ∀ x ∈ l, I32 x) : ∀ y ∈ nrm l, decU y = [y] ∧ I32 y := fun y hy => flat_bot l hl y ((ordL_mem _ _).1 hy)
theorem flat_id : ∀ l : List Int, (∀ y ∈ l, decU y = [y]) → flat l = l
  | [], _ => rfl
  | x :: t, h => by rw [flat_cons, h x (List.mem_cons_self ..), flat_id t (fun y hy => h y (List.mem_cons_of_mem _ hy))]; rfl
theorem nrm_id (l : List Int) (hl : ∀ x ∈ l, I32 x) : nrm (nrm l) = nrm l := by
  show ordL (flat (nrm l)) = _
  rw [flat_id _ (fun y hy => (nrm_bot l hl y hy).1)]
  exact ordL_id _
theorem nrm_len (l : List Int) : (nrm l).length = (flat l).length := ordL_len _
theorem nrm_len3 (l : List Int) (hl : ∀ x ∈ l, I32 x) : (nrm l).length ≤ 3 * l.length := by rw [nrm_len]; exact flat_len l hl
theorem normEv (l : List Int) (hwf : ∀ x ∈ l, I32 x) (hl : l.length ≤ 100000000) : Ev (fun k => norm_Normal.f k l) (nrm l) := by
  unfold norm_Normal.f
  have key := ev_range (n := l.length) (F := fun k i => norm_Normal.l0 k (flat (l.take i.toNat)) l (l.length : Int) i) (r := nrm l) ?_ ?_ 0 (Nat.zero_le _)
  · exact key
  · refine Ev.step (fun k => norm_Normal.l0.eq_2 ..) ?_
    have := flat_len l hwf
    simp only [if_neg (Int.lt_irrefl _), Int.toNat_natCast, List.take_length, norm_ordered.f, if_pos (show (flat l).length ≤ 1000000000000000 by omega), Option.bind_some]
    exact Ev.now _
  · intro i hi ih
    have hw := w64 (i := i) (by omega)
    have hx32 := hwf l[i] (List.getElem_mem hi)
    have hx := hx32
    unfold I32 at hx32
    have e : flat (l.take (i + 1)) = flat (l.take i) ++ decU l[i] := by
      rw [List.take_succ_eq_append_getElem hi, flat_app]
      simp [flat]
    have h1 := flat_len (l.take i) (fun x hx => hwf x (List.mem_of_mem_take hx))
    have h2 := dec_len3 l[i] hx
    rw [List.length_take] at h1
    refine Ev.step (fun k => norm_Normal.l0.eq_2 ..) ?_
    simp only [Int.toNat_natCast] at ih ⊢
    simp only [if_pos (getLt hi), if_pos (show (0 : Int) ≤ (i : Int) by omega), rd_nat hi, ucd_Decompose.f, if_pos hx32, Option.bind_some, if_pos (show (flat (l.take i)).length + (decU l[i]).length < 35184372088832 by omega), hw, ← e]
    exact ih
end Go.Proofs.YtdambnclbpipdaaGreatDoor.Oa
namespace Go.Proofs.YtdambnclbpipdaaGreatDoor.Ob
set_option linter.unusedVariables false
set_option linter.unusedSimpArgs false
open Go.Proofs.YtdambnclbpipdaaGreatDoor.Vd (decU)
open Go.Proofs.YtdambnclbpipdaaGreatDoor.Nc (K K_take K_drop srt_le)
open Go.RowKit Go.Proofs.YtdambnclbpipdaaGreatDoorW.PrintWords Go.Proofs.YtdambnclbpipdaaGreatDoor.Ev0 Go.Proofs.YtdambnclbpipdaaGreatDoor.X Go.Proofs.YtdambnclbpipdaaGreatDoor.Va Go.Proofs.YtdambnclbpipdaaGreatDoor.Vc Go.Proofs.YtdambnclbpipdaaGreatDoor.Ve Go.Proofs.YtdambnclbpipdaaGreatDoor.Vp0 Go.Proofs.YtdambnclbpipdaaGreatDoor.Vu Go.Proofs.YtdambnclbpipdaaGreatDoor.Na Go.Proofs.YtdambnclbpipdaaGreatDoor.Oa
theorem w64d {a : Nat} (h0 : 0 < a) (h : a < 4611686018427387904) : wrap64 ((a : Int) - 1) = ((a - 1 : Nat) : Int) := by unfold wrap64; omega
section
variable {x0 : List Int} {x5 : Int} {x6 : List Int} {R : List Int} {acc : List Int} {j f : Nat}
end
end Go.Proofs.YtdambnclbpipdaaGreatDoor.Ob
namespace Go.Proofs.YtdambnclbpipdaaGreatDoor.Cn
set_option linter.unusedVariables false
set_option linter.unusedSimpArgs false
open Go.Proofs.YtdambnclbpipdaaGreatDoor.Vd (decU)
open Go.Proofs.YtdambnclbpipdaaGreatDoor.Fr (K3 T3)
open Go.RowKit Go.Proofs.YtdambnclbpipdaaGreatDoorW.PrintWords Go.Proofs.YtdambnclbpipdaaGreatDoor.Ev0 Go.Proofs.YtdambnclbpipdaaGreatDoor.X Go.Proofs.YtdambnclbpipdaaGreatDoor.Va Go.Proofs.YtdambnclbpipdaaGreatDoor.Vp0 Go.Proofs.YtdambnclbpipdaaGreatDoor.Vu Go.Proofs.YtdambnclbpipdaaGreatDoor.Na Go.Proofs.YtdambnclbpipdaaGreatDoor.Oa Go.Proofs.YtdambnclbpipdaaGreatDoor.Ob
theorem NormR (w : World) (hG : G w) (A : Option Addr) (n c : Nat) (l : List Int) (hC : K3.C w A n l) (hn : n = l.length) (hc : n ≤ c) (hwf : ∀ x ∈ l, I32 x) (hl : n ≤ 100000000) :
    Calls Tryz.prog 113 #[.slice A n c] w fun e w' => ∃ v, e = .returned v ∧ K3.R T3 w' w.heap.size (fun _ => True) v (nrm l) ∧ Below w.heap.size w w' := by
  subst hn
  obtain ⟨k, hk⟩ := Ev.rounds (normEv l hwf hl)
  exact norm_Normal.calls k A c l _ w hC hc hk hG
end Go.Proofs.YtdambnclbpipdaaGreatDoor.Cn
namespace Go.Proofs.YtdambnclbpipdaaGreatDoor.X
open Go.RowKit Go.Proofs.YtdambnclbpipdaaGreatDoorW.PrintWords Go.Proofs.YtdambnclbpipdaaGreatDoorW.PrintLast Go.Proofs.YtdambnclbpipdaaGreatDoorW.PrintMore
attribute [local go_sem] max2_int min2_int max_two min_two max_three min_three max_four min_four   
set_option linter.unusedVariables false
set_option linter.unusedSimpArgs false
mutual
def tremaref01_At.j1 : Nat → List Int → Int → List Int → Int → Option (Int × Int × Bool)
 | 0, _, _, _, _ => none
 | k + 1, x0, x1, x7, x9 => if x9 ≤ (wrap64 ((x7.length : Int) / 2)) then (some (65533, x9, ((wrap64 (x1 + x9)) == (x0.length : Int)))) else (if x9 = 1 then (if 0 ≤ x1 then (if x1 < (x0.length : Int) then (some (wrap32 (rd x0 x1), 1, false)) else (none)) else (none)) else (if 0 ≤ x1 then (if x1 < (x0.length : Int) then (if 0 ≤ (wrap64 (7 - x9)) then (if (shl .i32 1 (wrap64 (7 - x9))) = 0 then (none) else (tremaref01_At.l1 k x0 x1 x9 (Int.tmod (wrap32 (rd x0 x1)) (shl .i32 1 (wrap64 (7 - x9)))) 1)) else (none)) else (none)) else (none)))
def tremaref01_At.l1 : Nat → List Int → Int → Int → Int → Int → Option (Int × Int × Bool)
 | 0, _, _, _, _, _ => none
 | k + 1, x0, x1, x9, x10, x11 => if x11 < x9 then (if 0 ≤ (wrap64 (x1 + x11)) then (if (wrap64 (x1 + x11)) < (x0.length : Int) then (tremaref01_At.l1 k x0 x1 x9 (wrap32 ((wrap32 (x10 * 64)) + (Int.tmod (wrap32 (rd x0 (wrap64 (x1 + x11)))) 64))) (wrap64 (x11 + 1))) else (none)) else (none)) else (some (x10, x9, false))
def tremaref01_At.l0 : Nat → List Int → Int → List Int → Int → Option (Int × Int × Bool)
 | 0, _, _, _, _ => none
 | k + 1, x0, x1, x7, x9 => if x9 ≤ (wrap64 ((x7.length : Int) / 2)) then (if (wrap64 (x1 + x9)) < (x0.length : Int) then (if 0 ≤ (wrap64 (x1 + x9)) then (if 0 ≤ (wrap64 ((wrap64 (2 * x9)) - 2)) then (if (wrap64 ((wrap64 (2 * x9)) - 2)) < (x7.length : Int) then (if (rd x0 (wrap64 (x1 + x9))) ≥ (rd x7 (wrap64 ((wrap64 (2 * x9)) - 2))) then (if 0 ≤ (wrap64 ((wrap64 (2 * x9)) - 1)) then (if (wrap64 ((wrap64 (2 * x9)) - 1)) < (x7.length : Int) then (if (rd x0 (wrap64 (x1 + x9))) ≤ (rd x7 (wrap64 ((wrap64 (2 * x9)) - 1))) then (tremaref01_At.l0 k x0 x1 x7 (wrap64 (x9 + 1))) else (tremaref01_At.j1 k x0 x1 x7 x9)) else (none)) else (none)) else (tremaref01_At.j1 k x0 x1 x7 x9)) else (none)) else (none)) else (none)) else (tremaref01_At.j1 k x0 x1 x7 x9)) else (tremaref01_At.j1 k x0 x1 x7 x9)
end
end Go.Proofs.YtdambnclbpipdaaGreatDoor.X
