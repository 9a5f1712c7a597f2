/-
  Several texts of this claim in one: what its law's proof uses.
-/
import Derived.Test.YthffpkdadffinaaDoorMWJ2
namespace Go.Proofs.YthffpkdadffinaaDoor.Nr
set_option linter.unusedVariables false
set_option linter.unusedSimpArgs false
open Go.RowKit YthffpkdadffinaaDoorW.PrintWords Hp Va Na Nb Nc Nd
def TurnPost (w : World) (g : Nat) (pre post : List Value) (T : List Int) (e : Ending) (w' : World) : Prop :=
  e = .returned (.tuple #[]) ∧ Chg (fun b => b = g) w w' ∧ Reg w' g pre post T
set_option maxRecDepth 100000 in
set_option maxHeartbeats 2000000 in
theorem SwpP (w : World) (g : Nat) (pre post : List Value) (A U M V B : List Int) (c : Nat) (hR : Reg w g pre post (A ++ U ++ M ++ V ++ B)) (n : Nat) (hn : n = (A ++ U ++ M ++ V ++ B).length) (hn5 : n ≤ 1000000000000000) (off : Nat) (hoff : off = pre.length) (a b k : Nat) (ha : a = A.length) (hb : b = A.length + U.length + M.length) (hk : k = U.length) (hk2 : k = V.length) :
    Calls Tryd.prog 129 #[.slice (some ⟨g, off, none⟩) n c, .int .i64 (a : Int), .int .i64 (b : Int), .int .i64 (k : Int), .func (.func 110) #[] #[]] w (TurnPost w g pre post (A ++ V ++ M ++ U ++ B)) := by
  have HR := Aside0.mk hR; have HF := Aside0.mk hoff; have HA := Aside0.mk ha; have HB := Aside0.mk hb; have HK := Aside0.mk hk; have HK2 := Aside0.mk hk2; (have hbn : b + k ≤ n := by rw [hb, hn, hk2]; simp; omega); (have han : a + k ≤ n := by omega); clear hR hn hoff ha hb hk hk2; go_enter Tryd.func129, Tryd.ntmps129; go_wp2; go_loopw [10] (fun iv wr => ∃ i : Nat, iv = .int .i64 i ∧ i ≤ k ∧ Aside0 (Reg wr g pre post (A ++ V.take i ++ U.drop i ++ M ++ U.take i ++ V.drop i ++ B)) ∧ Aside0 (Chg (fun b => b = g) w wr)) (fun iv _ => k - (intOf iv).toNat)
  case atStart => exact ⟨0, rfl, Nat.zero_le _, ⟨by have := HR.out; simpa using this⟩, ⟨Chg.refl _ _⟩⟩
  case round =>
    obtain ⟨i, rfl, hi, HRr, HC⟩ := hrel; by_cases hlt : i < k
    · have hd : decide ((i : Int) < (k : Int)) = true := decide_eq_true (by omega); obtain ⟨u, hu⟩ : ∃ u, U.drop i = u :: U.drop (i + 1) ∧ U.take (i + 1) = U.take i ++ [u] := ⟨U[i]'(by have := HK.out; omega), by rw [List.drop_eq_getElem_cons], by rw [List.take_succ_eq_append_getElem]⟩; obtain ⟨v, hv⟩ : ∃ v, V.drop i = v :: V.drop (i + 1) ∧ V.take (i + 1) = V.take i ++ [v] := ⟨V[i]'(by have := HK2.out; omega), by rw [List.drop_eq_getElem_cons], by rw [List.take_succ_eq_append_getElem]⟩; have hr := HRr.out; rw [hu.1, hv.1, show A ++ V.take i ++ (u :: U.drop (i + 1)) ++ M ++ U.take i ++ (v :: V.drop (i + 1)) ++ B = (A ++ V.take i) ++ u :: ((U.drop (i + 1) ++ M ++ U.take i) ++ v :: (V.drop (i + 1) ++ B)) by simp] at hr; obtain ⟨c1, c2, hSw, -⟩ := hr.two HF.out (p := a + i) (q := b + i) (by have := HA.out; have := HK2.out; simp; omega) (by have := HB.out; have := HK.out; have := HK2.out; simp; omega); have f1 := hr.free (off + (a + i)); have f2 := hr.free (off + (b + i))
      obtain ⟨z, c3⟩ : ∃ z, (wr.setCell ⟨g, off + (a + i), none⟩ (.int .i32 v)).cell? ⟨g, off + (b + i), none⟩ = some z := by
        by_cases e : (⟨g, off + (a + i), none⟩ : Addr) = ⟨g, off + (b + i), none⟩
        · rw [← e]; exact ⟨_, World.cell?_setCell_same wr _ _ c1⟩
        · exact ⟨_, (World.cell?_setCell_other wr _ _ _ e).trans c2⟩
      (have hj1 : ((a : Int) + (i : Int)).toNat = a + i := by omega); (have hj2 : (0 : Int) ≤ (a : Int) + (i : Int) := by omega); (have hj3 : (a : Int) + (i : Int) < (n : Int) := by omega); have hj4 : IntKind.i64.wrap ((a : Int) + (i : Int)) = (a : Int) + (i : Int) := IntWalk.i64_in _ (by omega); (have hk1 : ((b : Int) + (i : Int)).toNat = b + i := by omega); (have hk2 : (0 : Int) ≤ (b : Int) + (i : Int) := by omega); (have hk3 : (b : Int) + (i : Int) < (n : Int) := by omega); have hk4 : IntKind.i64.wrap ((b : Int) + (i : Int)) = (b : Int) + (i : Int) := IntWalk.i64_in _ (by omega); have HSw := Aside0.mk hSw; have HU := Aside0.mk hu; have HV := Aside0.mk hv; clear hSw hu hv hr; go_wp2
      go_big_region
      have HR5 := Aside0.mk (HSw.out.drew); have HC5 := Aside0.mk (((HC.out.setCell (p := ⟨g, off + (a + i), none⟩) (.inl rfl) (.int .i32 v)).setCell (p := ⟨g, off + (b + i), none⟩) (.inl rfl) (.int .i32 u)).drew); clear HSw HC c1 c2 c3 f1 f2 hj1 hj2 hj3 hj4 hk1 hk2 hk3 hk4; generalize ((wr.setCell ⟨g, off + (a + i), none⟩ (.int .i32 v)).setCell ⟨g, off + (b + i), none⟩ (.int .i32 u)).drew = w4 at HR5 HC5 ⊢; go_wp2; go_roundw
      case rel => exact ⟨i + 1, by go_num, by omega, ⟨by rw [HU.out.2, HV.out.2]; have := HR5.out; simpa using this⟩, HC5⟩
      case measure => simp [intOf] <;> omega
    · have hd : decide ((i : Int) < (k : Int)) = false := decide_eq_false (by omega); (obtain rfl : i = k := by omega); have hr := HRr.out; rw [List.take_of_length_le (by have := HK2.out; omega), List.drop_of_length_le (by have := HK.out; omega), List.take_of_length_le (by have := HK.out; omega), List.drop_of_length_le (by have := HK2.out; omega)] at hr; have HR5 := Aside0.mk (show Reg wr g pre post (A ++ V ++ M ++ U ++ B) by simpa using hr); clear hr; go_wp2; go_end0; exact ⟨rfl, HC.out, HR5.out⟩
set_option maxRecDepth 100000 in
set_option maxHeartbeats 2000000 in
theorem RotP (w : World) (g : Nat) (pre post : List Value) (A U V B : List Int) (c : Nat) (hR : Reg w g pre post (A ++ U ++ V ++ B)) (hU : 0 < U.length) (hV : 0 < V.length) (n : Nat) (hn : n = (A ++ U ++ V ++ B).length) (hn5 : n ≤ 1000000000000000) (off : Nat) (hoff : off = pre.length) (a m b : Nat) (ha : a = A.length) (hm : m = A.length + U.length) (hb : b = A.length + U.length + V.length) :
    Calls Tryd.prog 128 #[.slice (some ⟨g, off, none⟩) n c, .int .i64 (a : Int), .int .i64 (m : Int), .int .i64 (b : Int), .func (.func 110) #[] #[]] w (TurnPost w g pre post (A ++ V ++ U ++ B)) := by
  have HR := Aside0.mk hR; have HF := Aside0.mk hoff; have HA := Aside0.mk ha; have HM := Aside0.mk hm; have HB := Aside0.mk hb; have HN := Aside0.mk hn; have HUV := Aside0.mk (And.intro hU hV); (have hmn : m ≤ n := by rw [hm, hn]; simp <;> omega); (have hbn : b ≤ n := by rw [hb, hn]; simp <;> omega); (have ham : a ≤ m := by omega); (have hmb : m ≤ b := by omega); (have e1 : (m : Int) - (a : Int) = ((m - a : Nat) : Int) := by omega); (have e2 : (b : Int) - (m : Int) = ((b - m : Nat) : Int) := by omega); clear hR hn hoff ha hb hm hU hV; go_enter Tryd.func128, Tryd.ntmps128; go_wp2; go_loopw [10, 11] (fun iv jv wr => ∃ (i j : Nat) (A' U' V' B' : List Int), iv = .int .i64 i ∧ jv = .int .i64 j ∧ 0 < i ∧ 0 < j ∧ i ≤ m ∧ m + j ≤ n ∧ Aside0 (i = U'.length ∧ j = V'.length ∧ A'.length + i = m) ∧ Aside0 (A' ++ V' ++ U' ++ B' = A ++ V ++ U ++ B) ∧ Aside0 (Reg wr g pre post (A' ++ U' ++ V' ++ B')) ∧ Aside0 (Chg (fun b => b = g) w wr)) (fun iv jv _ => (intOf iv).toNat + (intOf jv).toNat)
  case atStart => exact ⟨m - a, b - m, A, U, V, B, rfl, rfl, by have := HA.out; have := HM.out; have := HUV.out; omega, by have := HB.out; have := HM.out; have := HUV.out; omega, by omega, by omega, ⟨by have := HA.out; have := HM.out; omega, by have := HB.out; have := HM.out; omega, by have := HA.out; have := HM.out; omega⟩, ⟨rfl⟩, HR, ⟨Chg.refl _ _⟩⟩
  case round =>
    obtain ⟨i, j, A', U', V', B', rfl, rfl, hi0, hj0, him, hjn, HL, HE, HRr, HC⟩ := hrel
    have HNl : Aside0 (n = (A' ++ U' ++ V' ++ B').length) := ⟨by
      have h1 := congrArg List.length HE.out
      rw [HN.out]; simp at h1 ⊢; omega⟩
    (have e3 : (m : Int) - (i : Int) = ((m - i : Nat) : Int) := by omega); rcases Nat.lt_trichotomy i j with hij | hij | hij
    · (have hd : ((i : Int) != (j : Int)) = true := by simp <;> omega); have hd2 : decide ((j : Int) < (i : Int)) = false := decide_eq_false (by omega); have hd3 : decide (j < i) = false := decide_eq_false (by omega); (have e4 : (m : Int) + (j : Int) - (i : Int) = ((m + j - i : Nat) : Int) := by omega); (have e5 : (j : Int) - (i : Int) = ((j - i : Nat) : Int) := by omega); obtain ⟨V1, V2, hv, hv2⟩ : ∃ V1 V2, V' = V1 ++ V2 ∧ V2.length = i := ⟨V'.take (j - i), V'.drop (j - i), (List.take_append_drop _ _).symm, by have := HL.out; rw [List.length_drop]; omega⟩; have HV := Aside0.mk (And.intro hv hv2); have HCall := Aside0.mk (SwpP wr g pre post A' U' V1 V2 B' c (by have := HRr.out; rw [hv] at this; simpa using this) n (by rw [HNl.out, hv]; simp <;> omega) hn5 off HF.out (m - i) (m + j - i) i (by have := HL.out; omega) (by have h1 := HL.out; rw [hv] at h1; simp only [List.length_append] at h1; omega) HL.out.1 hv2.symm); clear hv hv2; go_wp2_with (first | (go_at_call 129; go_must (refine HCall.out.mono ?_; rintro e w2 ⟨rfl, p1, p2⟩; have C2 := Aside0.mk (HC.out.trans p1 (fun _ _ h => h)); have R2 := Aside0.mk p2; clear p1 p2))); go_roundw
      case rel => exact ⟨i, j - i, A', V2, V1, U' ++ B', by rfl, by go_num, by omega, by omega, by omega, by omega, ⟨HV.out.2.symm, by have := HL.out; have h2 := congrArg List.length HV.out.1; have := HV.out.2; simp at h2; omega, HL.out.2.2⟩, ⟨by rw [← HE.out, HV.out.1]; simp⟩, ⟨by have := R2.out; simpa using this⟩, C2⟩
      case measure => simp [intOf] <;> omega
    · subst hij; (have hd : ((i : Int) != (i : Int)) = false := by simp); have HCall := Aside0.mk (SwpP wr g pre post A' U' [] V' B' c (by have := HRr.out; simpa using this) n (by rw [HNl.out]; simp) hn5 off HF.out (m - i) m i (by have := HL.out; omega) (by have := HL.out; simp only [List.length_nil]; omega) HL.out.1 HL.out.2.1); go_wp2_with (first | (go_at_call 129; go_must (refine HCall.out.mono ?_; rintro e w2 ⟨rfl, p1, p2⟩; have C2 := Aside0.mk (HC.out.trans p1 (fun _ _ h => h)); have R2 := Aside0.mk p2; clear p1 p2))); go_end0; exact ⟨rfl, C2.out, by rw [← HE.out]; have := R2.out; simpa using this⟩
    · (have hd : ((i : Int) != (j : Int)) = true := by simp <;> omega); have hd2 : decide ((j : Int) < (i : Int)) = true := decide_eq_true (by omega); have hd3 : decide (j < i) = true := decide_eq_true (by omega); (have e5 : (i : Int) - (j : Int) = ((i - j : Nat) : Int) := by omega); obtain ⟨U1, U2, hv, hv2⟩ : ∃ U1 U2, U' = U1 ++ U2 ∧ U1.length = j := ⟨U'.take j, U'.drop j, (List.take_append_drop _ _).symm, by have := HL.out; rw [List.length_take]; omega⟩; have HV := Aside0.mk (And.intro hv hv2); have HCall := Aside0.mk (SwpP wr g pre post A' U1 U2 V' B' c (by have := HRr.out; rw [hv] at this; simpa using this) n (by rw [HNl.out, hv]; simp <;> omega) hn5 off HF.out (m - i) m j (by have := HL.out; omega) (by have h1 := HL.out; rw [hv] at h1; simp only [List.length_append] at h1; omega) hv2.symm HL.out.2.1); clear hv hv2; go_wp2_with (first | (go_at_call 129; go_must (refine HCall.out.mono ?_; rintro e w2 ⟨rfl, p1, p2⟩; have C2 := Aside0.mk (HC.out.trans p1 (fun _ _ h => h)); have R2 := Aside0.mk p2; clear p1 p2))); go_roundw
      case rel => exact ⟨i - j, j, A' ++ V', U2, U1, B', by go_num, by rfl, by omega, by omega, by omega, by omega, ⟨by have := HL.out; have h2 := congrArg List.length HV.out.1; have := HV.out.2; simp at h2; omega, HV.out.2.symm, by have := HL.out; simp; omega⟩, ⟨by rw [← HE.out, HV.out.1]; simp⟩, ⟨by have := R2.out; simpa using this⟩, C2⟩
      case measure => simp [intOf] <;> omega
end Go.Proofs.YthffpkdadffinaaDoor.Nr
namespace Go.Proofs.YthffpkdadffinaaDoor.Ns
set_option linter.unusedVariables false
set_option linter.unusedSimpArgs false
open Go.RowKit YthffpkdadffinaaDoorW.PrintWords Hp Va Na Nb Nc Nd Nr
theorem Reg.one {w : World} {g : Nat} {pre post : List Value} {P Q : List Int} {x : Int} (h : Reg w g pre post (P ++ x :: Q)) {off p : Nat} (ho : off = pre.length) (hp : p = P.length) : w.cell? ⟨g, off + p, none⟩ = some (.int .i32 x) := by
  subst ho hp; have := h.at_ P.length (by simp); rw [Nc.get_at] at this; exact this
theorem split_at {S : List Int} {t : Nat} (h : t < S.length) : ∃ y, S = S.take t ++ y :: S.drop (t + 1) ∧ S.drop t = y :: S.drop (t + 1) ∧ S.take (t + 1) = S.take t ++ [y] ∧ cls y = K S t :=
  ⟨S[t], by rw [← List.drop_eq_getElem_cons, List.take_append_drop], by rw [← List.drop_eq_getElem_cons], by rw [List.take_succ_eq_append_getElem], by unfold K; rw [List.getD_eq_getElem?_getD, List.getElem?_eq_getElem h]; rfl⟩
set_option maxRecDepth 100000 in
set_option maxHeartbeats 4000000 in
theorem MrgL (w : World) (hG : G w) (g : Nat) (hg : 3 ≤ g) (pre post : List Value) (A S C : List Int) (x : Int) (c : Nat) (hS : Srt S) (hS0 : 0 < S.length) (hR : Reg w g pre post (A ++ [x] ++ S ++ C)) (n : Nat) (hn : n = (A ++ [x] ++ S ++ C).length) (hn5 : n ≤ 1000000000000000) (off : Nat) (hoff : off = pre.length) (a m b : Nat) (ha : a = A.length) (hm : m = a + 1) (hb : b = m + S.length) :
    Calls Tryd.prog 127 #[.slice (some ⟨g, off, none⟩) n c, .int .i64 (a : Int), .int .i64 (m : Int), .int .i64 (b : Int), .func (.func 110) #[] #[]] w (InsPost w g pre post A ([x] ++ S) C) := by
  have HG := Aside0.mk hG; have HR := Aside0.mk hR; have HS := Aside0.mk hS; have HF := Aside0.mk hoff; have HA := Aside0.mk ha; have HB := Aside0.mk hb; have HM := Aside0.mk hm; (have hbn : b ≤ n := by rw [hb, hm, ha, hn]; simp <;> omega); (have hmb : m < b := by omega); (have ham : a < m := by omega); (have e1 : (m : Int) - (a : Int) = 1 := by omega); clear hG hR hn hoff ha hb hm hS hS0; go_enter Tryd.func127, Tryd.ntmps127; go_wp2; go_loopw [10, 11, 12] (fun iv jv hv wr => ∃ i j : Nat, iv = .int .i64 i ∧ jv = .int .i64 j ∧ m ≤ i ∧ i ≤ j ∧ j ≤ b ∧ Aside0 (∀ t, t < i - m → t < S.length → K S t < cls x) ∧ Aside0 (∀ t, j - m ≤ t → t < S.length → cls x ≤ K S t) ∧ Aside0 (Reg wr g pre post (A ++ [x] ++ S ++ C)) ∧ Aside0 (Chg (fun b => b = g) w wr)) (fun iv jv _ _ => (intOf jv).toNat - (intOf iv).toNat)
  case atStart => exact ⟨m, b, rfl, rfl, Nat.le_refl _, by omega, Nat.le_refl _, ⟨fun t h => by omega⟩, ⟨fun t h1 h2 => by have := HB.out; omega⟩, HR, ⟨Chg.refl _ _⟩⟩
  case round =>
    obtain ⟨i, j, rfl, rfl, hmi, hij, hjb, HL, HH, HRr, HC⟩ := hrel; by_cases hlt : i < j
    · have hd : decide ((i : Int) < (j : Int)) = true := decide_eq_true (by omega); obtain ⟨h, hh⟩ : ∃ h, h = (i + j) / 2 := ⟨_, rfl⟩; (have hh1 : i ≤ h := by omega); (have hh2 : h < j := by omega); (have hu1 : IntKind.u64.wrap ((i : Int) + (j : Int)) = (i : Int) + (j : Int) := by rw [IntKind.wrap_u64]; omega); (have hu2 : ((i : Int) + (j : Int)) / 2 = (h : Int) := by omega); have hu3 : IntKind.i64.wrap (h : Int) = (h : Int) := IntWalk.i64_in _ (by omega); obtain ⟨y, hy1, -, -, hy4⟩ := split_at (S := S) (t := h - m) (by have := HB.out; omega); have hr := HRr.out; have c1 := hr; rw [hy1, show A ++ [x] ++ (S.take (h - m) ++ y :: S.drop (h - m + 1)) ++ C = (A ++ [x] ++ S.take (h - m)) ++ y :: (S.drop (h - m + 1) ++ C) by simp] at c1; have c1 := Reg.one c1 HF.out (p := h) (by have := HA.out; have := HM.out; have := HB.out; simp; omega); have c2 := hr; rw [show A ++ [x] ++ S ++ C = A ++ x :: (S ++ C) by simp] at c2; have c2 := Reg.one c2 HF.out (p := a) HA.out; have HY := Aside0.mk hy4; clear hr hy1 hy4 hh; (have l1 : ∀ p : Aft wr, p.w'.cell? ⟨g, off + h, none⟩ = some (.int .i32 y) := fun p => p.cell c1); (have l2 : ∀ p : Aft wr, p.w'.cell? ⟨g, off + a, none⟩ = some (.int .i32 x) := fun p => p.cell c2); have HG2 := Aside0.mk (show ∀ p : Aft wr, G p.w' from fun p => (G_chg HG.out HC.out (fun k hk e => by omega)).below p.hb); (have hj1 : (h : Int) < (n : Int) := by omega); (have hj2 : (a : Int) < (n : Int) := by omega); clear c1 c2; by_cases hyx : cls y < cls x
      · (have hc : decide (cmpv (cls y) (cls x) < 0) = true := by rw [cmpv_neg]; exact decide_eq_true hyx); go_wp2; refine wp_region_aft (by kernel_rfl) (by kernel_rfl) ?_; (repeat (quiet_step (first | (go_at_call 110; exact aft_of (CmpP _ (HG2.out _) y x))))); refine wpQuiet_nil ?_; rintro w3 ⟨⟨_, hb3⟩, rfl⟩; have HR4 := Aside0.mk (HRr.out.below hb3); have HC4 := Aside0.mk (HC.out.then_below hb3); clear l1 l2 hb3 HG2 HRr HC; go_wp2; go_roundw
        case rel => exact ⟨h + 1, j, by go_num, rfl, by omega, by omega, by omega, ⟨fun t h1 h2 => Int.lt_of_le_of_lt (srt_le HS.out (show t ≤ h - m by omega) (by have := HB.out; omega)) (HY.out ▸ hyx)⟩, HH, HR4, HC4⟩
        case measure => simp [intOf] <;> omega
      · (have hc : decide (cmpv (cls y) (cls x) < 0) = false := by rw [cmpv_neg]; exact decide_eq_false hyx); go_wp2; refine wp_region_aft (by kernel_rfl) (by kernel_rfl) ?_; (repeat (quiet_step (first | (go_at_call 110; exact aft_of (CmpP _ (HG2.out _) y x))))); refine wpQuiet_nil ?_; rintro w3 ⟨⟨_, hb3⟩, rfl⟩; have HR4 := Aside0.mk (HRr.out.below hb3); have HC4 := Aside0.mk (HC.out.then_below hb3); clear l1 l2 hb3 HG2 HRr HC; go_wp2; go_roundw
        case rel => exact ⟨i, h, rfl, rfl, by omega, by omega, by omega, HL, ⟨fun t h1 h2 => Int.le_trans (by rw [← HY.out]; omega) (srt_le HS.out h1 h2)⟩, HR4, HC4⟩
        case measure => simp [intOf] <;> omega
    · have hd : decide ((i : Int) < (j : Int)) = false := decide_eq_false (by omega); (obtain rfl : i = j := by omega); have HO := Aside0.mk (one_left (S := S) (x := x) HS.out (i - m) HL.out HH.out); (have e2 : (i : Int) - 1 = ((i - 1 : Nat) : Int) := by omega); clear HL HH; go_wp2; go_loopw [13] (fun kv wr => ∃ k : Nat, kv = .int .i64 k ∧ a ≤ k ∧ k ≤ i - 1 ∧ Aside0 (Reg wr g pre post (A ++ S.take (k - a) ++ [x] ++ S.drop (k - a) ++ C)) ∧ Aside0 (Chg (fun b => b = g) w wr)) (fun kv _ => i - 1 - (intOf kv).toNat)
      case atStart => exact ⟨a, rfl, Nat.le_refl _, by omega, ⟨by have := HRr.out; simpa using this⟩, HC⟩
      case round =>
        clear HRr HC; obtain ⟨k, rfl, hak, hki, HRr, HC⟩ := hrel; by_cases hlt : k < i - 1
        · have hd : decide ((k : Int) < ((i - 1 : Nat) : Int)) = true := decide_eq_true (by omega); have hd2 : decide (k < i - 1) = true := decide_eq_true hlt; obtain ⟨y, -, hy2, hy3, -⟩ := split_at (S := S) (t := k - a) (by have := HB.out; have := HM.out; omega); have hr := HRr.out; rw [hy2, show A ++ S.take (k - a) ++ [x] ++ (y :: S.drop (k - a + 1)) ++ C = (A ++ S.take (k - a)) ++ x :: ([] ++ y :: (S.drop (k - a + 1) ++ C)) by simp] at hr; (have hpl : k = (A ++ S.take (k - a)).length := by have := HA.out; have := HB.out; have := HM.out; simp; omega); obtain ⟨c1, c2, hSw, -⟩ := hr.two HF.out hpl (q := k + 1) (by rw [← hpl]; rfl); have f1 := hr.free (off + k); have f2 := hr.free (off + (k + 1)); obtain ⟨z, c3⟩ : ∃ z, (wr.setCell ⟨g, off + k, none⟩ (.int .i32 y)).cell? ⟨g, off + (k + 1), none⟩ = some z := cell?_setCell_some c2; (have hj1 : ((k : Int) + 1).toNat = k + 1 := by omega); (have hj2 : (0 : Int) ≤ (k : Int) + 1 := by omega); (have hj3 : (k : Int) + 1 < (n : Int) := by omega); have hj4 : IntKind.i64.wrap ((k : Int) + 1) = (k : Int) + 1 := IntWalk.i64_in _ (by omega); (have hj5 : (k : Int) < (n : Int) := by omega); (have hj6 : (0 : Int) ≤ (k : Int) := by omega); have HSw := Aside0.mk hSw; have HY := Aside0.mk hy3; clear hSw hy2 hy3 hr hpl; go_wp2
          go_big_region
          have HR5 := Aside0.mk (HSw.out.drew); have HC5 := Aside0.mk (((HC.out.setCell (p := ⟨g, off + k, none⟩) (.inl rfl) (.int .i32 y)).setCell (p := ⟨g, off + (k + 1), none⟩) (.inl rfl) (.int .i32 x)).drew); clear HSw HC c1 c2 c3 f1 f2 hj1 hj2 hj3 hj4 hj5 hj6; generalize ((wr.setCell ⟨g, off + k, none⟩ (.int .i32 y)).setCell ⟨g, off + (k + 1), none⟩ (.int .i32 x)).drew = w4 at HR5 HC5 ⊢; go_wp2; go_roundw
          case rel => exact ⟨k + 1, by go_num, by omega, by omega, ⟨by rw [show k + 1 - a = k - a + 1 by omega, HY.out]; have := HR5.out; simpa using this⟩, HC5⟩
          case measure => simp [intOf] <;> omega
        · have hd : decide ((k : Int) < ((i - 1 : Nat) : Int)) = false := decide_eq_false (by omega); have hd2 : decide (k < i - 1) = false := decide_eq_false hlt; have HK : Aside0 (k - a = i - m) := ⟨by have := HM.out; omega⟩; go_wp2; go_end0; exact ⟨rfl, HC.out, S.take (i - m) ++ x :: S.drop (i - m), by have := HRr.out; rw [HK.out] at this; simpa using this, HO.out.1, HO.out.2⟩
set_option maxRecDepth 100000 in
set_option maxHeartbeats 4000000 in
theorem MrgR (w : World) (hG : G w) (g : Nat) (hg : 3 ≤ g) (pre post : List Value) (A S C : List Int) (y : Int) (c : Nat) (hS : Srt S) (hS0 : 1 < S.length) (hR : Reg w g pre post (A ++ S ++ [y] ++ C)) (n : Nat) (hn : n = (A ++ S ++ [y] ++ C).length) (hn5 : n ≤ 1000000000000000) (off : Nat) (hoff : off = pre.length) (a m b : Nat) (ha : a = A.length) (hm : m = a + S.length) (hb : b = m + 1) :
    Calls Tryd.prog 127 #[.slice (some ⟨g, off, none⟩) n c, .int .i64 (a : Int), .int .i64 (m : Int), .int .i64 (b : Int), .func (.func 110) #[] #[]] w (InsPost w g pre post A (S ++ [y]) C) := by
  have HG := Aside0.mk hG; have HR := Aside0.mk hR; have HS := Aside0.mk hS; have HF := Aside0.mk hoff; have HA := Aside0.mk ha; have HB := Aside0.mk hb; have HM := Aside0.mk hm; (have hbn : b ≤ n := by rw [hb, hm, ha, hn]; simp <;> omega); (have hmb : m < b := by omega); (have ham : a + 1 < m := by omega); obtain ⟨q, hq⟩ : ∃ q : Nat, q = m - a := ⟨_, rfl⟩; (have hq1 : 1 < q := by omega); (have e1 : (m : Int) - (a : Int) = (q : Int) := by omega); (have e1b : ((q : Int) == 1) = false := by simp <;> omega); (have e2 : (b : Int) - (m : Int) = 1 := by omega); clear hG hR hn hoff ha hb hm hS hS0 hq; go_enter Tryd.func127, Tryd.ntmps127; go_wp2; go_loopw [14, 15, 16] (fun iv jv hv wr => ∃ i j : Nat, iv = .int .i64 i ∧ jv = .int .i64 j ∧ a ≤ i ∧ i ≤ j ∧ j ≤ m ∧ Aside0 (∀ t, t < i - a → t < S.length → K S t ≤ cls y) ∧ Aside0 (∀ t, j - a ≤ t → t < S.length → cls y < K S t) ∧ Aside0 (Reg wr g pre post (A ++ S ++ [y] ++ C)) ∧ Aside0 (Chg (fun b => b = g) w wr)) (fun iv jv _ _ => (intOf jv).toNat - (intOf iv).toNat)
  case atStart => exact ⟨a, m, rfl, rfl, Nat.le_refl _, by omega, Nat.le_refl _, ⟨fun t h => by omega⟩, ⟨fun t h1 h2 => by have := HM.out; omega⟩, HR, ⟨Chg.refl _ _⟩⟩
  case round =>
    obtain ⟨i, j, rfl, rfl, hmi, hij, hjb, HL, HH, HRr, HC⟩ := hrel; by_cases hlt : i < j
    · have hd : decide ((i : Int) < (j : Int)) = true := decide_eq_true (by omega); obtain ⟨h, hh⟩ : ∃ h, h = (i + j) / 2 := ⟨_, rfl⟩; (have hh1 : i ≤ h := by omega); (have hh2 : h < j := by omega); (have hu1 : IntKind.u64.wrap ((i : Int) + (j : Int)) = (i : Int) + (j : Int) := by rw [IntKind.wrap_u64]; omega); (have hu2 : ((i : Int) + (j : Int)) / 2 = (h : Int) := by omega); have hu3 : IntKind.i64.wrap (h : Int) = (h : Int) := IntWalk.i64_in _ (by omega); obtain ⟨x, hy1, -, -, hy4⟩ := split_at (S := S) (t := h - a) (by have := HM.out; omega); have hr := HRr.out; have c1 := hr; rw [hy1, show A ++ (S.take (h - a) ++ x :: S.drop (h - a + 1)) ++ [y] ++ C = (A ++ S.take (h - a)) ++ x :: (S.drop (h - a + 1) ++ [y] ++ C) by simp] at c1; have c1 := Reg.one c1 HF.out (p := h) (by have := HA.out; have := HM.out; have := HB.out; simp; omega); have c2 := hr; rw [show A ++ S ++ [y] ++ C = (A ++ S) ++ y :: C by simp] at c2; have c2 := Reg.one c2 HF.out (p := m) (by have := HA.out; have := HM.out; simp; omega); have HY := Aside0.mk hy4; clear hr hy1 hy4 hh; (have l1 : ∀ p : Aft wr, p.w'.cell? ⟨g, off + h, none⟩ = some (.int .i32 x) := fun p => p.cell c1); (have l2 : ∀ p : Aft wr, p.w'.cell? ⟨g, off + m, none⟩ = some (.int .i32 y) := fun p => p.cell c2); have HG2 := Aside0.mk (show ∀ p : Aft wr, G p.w' from fun p => (G_chg HG.out HC.out (fun k hk e => by omega)).below p.hb); (have hj1 : (h : Int) < (n : Int) := by omega); (have hj2 : (m : Int) < (n : Int) := by omega); clear c1 c2; by_cases hyx : cls y < cls x
      · (have hc : decide (cmpv (cls y) (cls x) < 0) = true := by rw [cmpv_neg]; exact decide_eq_true hyx); go_wp2; refine wp_region_aft (by kernel_rfl) (by kernel_rfl) ?_; (repeat (quiet_step (first | (go_at_call 110; exact aft_of (CmpP _ (HG2.out _) y x))))); refine wpQuiet_nil ?_; rintro w3 ⟨⟨_, hb3⟩, rfl⟩; have HR4 := Aside0.mk (HRr.out.below hb3); have HC4 := Aside0.mk (HC.out.then_below hb3); clear l1 l2 hb3 HG2 HRr HC; go_wp2; go_roundw
        case rel => exact ⟨i, h, rfl, rfl, by omega, by omega, by omega, HL, ⟨fun t h1 h2 => Int.lt_of_lt_of_le (HY.out ▸ hyx) (srt_le HS.out h1 h2)⟩, HR4, HC4⟩
        case measure => simp [intOf] <;> omega
      · (have hc : decide (cmpv (cls y) (cls x) < 0) = false := by rw [cmpv_neg]; exact decide_eq_false hyx); go_wp2; refine wp_region_aft (by kernel_rfl) (by kernel_rfl) ?_; (repeat (quiet_step (first | (go_at_call 110; exact aft_of (CmpP _ (HG2.out _) y x))))); refine wpQuiet_nil ?_; rintro w3 ⟨⟨_, hb3⟩, rfl⟩; have HR4 := Aside0.mk (HRr.out.below hb3); have HC4 := Aside0.mk (HC.out.then_below hb3); clear l1 l2 hb3 HG2 HRr HC; go_wp2; go_roundw
        case rel => exact ⟨h + 1, j, by go_num, rfl, by omega, by omega, by omega, ⟨fun t h1 h2 => Int.le_trans (srt_le HS.out (show t ≤ h - a by omega) (by have := HM.out; omega)) (by rw [← HY.out]; omega)⟩, HH, HR4, HC4⟩
        case measure => simp [intOf] <;> omega
    · have hd : decide ((i : Int) < (j : Int)) = false := decide_eq_false (by omega); (obtain rfl : i = j := by omega); have HO := Aside0.mk (one_right (S := S) (y := y) HS.out (i - a) HL.out HH.out); clear HL HH; go_wp2; go_loopw [17] (fun kv wr => ∃ k : Nat, kv = .int .i64 k ∧ i ≤ k ∧ k ≤ m ∧ Aside0 (Reg wr g pre post (A ++ S.take (k - a) ++ [y] ++ S.drop (k - a) ++ C)) ∧ Aside0 (Chg (fun b => b = g) w wr)) (fun kv _ => (intOf kv).toNat)
      case atStart => exact ⟨m, rfl, hjb, Nat.le_refl _, ⟨by have h1 := HM.out; have := HRr.out; rw [List.take_of_length_le (by omega), List.drop_of_length_le (by omega)]; simpa using this⟩, HC⟩
      case round =>
        clear HRr HC; obtain ⟨k, rfl, hik, hkm, HRr, HC⟩ := hrel; by_cases hlt : i < k
        · have hd : decide ((i : Int) < (k : Int)) = true := decide_eq_true (by omega); have hd2 : decide (i < k) = true := decide_eq_true hlt; obtain ⟨kp, rfl⟩ : ∃ q, k = q + 1 := ⟨k - 1, by omega⟩; have hd3 : decide ((i : Int) < (kp : Int) + 1) = true := decide_eq_true (by omega); obtain ⟨x, -, hy2, hy3, -⟩ := split_at (S := S) (t := kp - a) (by have := HM.out; omega); have hr := HRr.out; rw [show kp + 1 - a = kp - a + 1 by omega, hy3, show A ++ (S.take (kp - a) ++ [x]) ++ [y] ++ S.drop (kp - a + 1) ++ C = (A ++ S.take (kp - a)) ++ x :: ([] ++ y :: (S.drop (kp - a + 1) ++ C)) by simp] at hr; (have hpl : kp = (A ++ S.take (kp - a)).length := by have := HA.out; have := HB.out; have := HM.out; simp; omega); obtain ⟨c1, c2, -, hSw⟩ := hr.two HF.out hpl (q := kp + 1) (by rw [← hpl]; rfl); have f1 := hr.free (off + kp); have f2 := hr.free (off + (kp + 1)); obtain ⟨z, c3⟩ : ∃ z, (wr.setCell ⟨g, off + (kp + 1), none⟩ (.int .i32 x)).cell? ⟨g, off + kp, none⟩ = some z := cell?_setCell_some c1; (have hj1 : ((kp : Int) + 1).toNat = kp + 1 := by omega); (have hj2 : (0 : Int) ≤ (kp : Int) + 1 := by omega); (have hj3 : (kp : Int) + 1 < (n : Int) := by omega); have hj4 : IntKind.i64.wrap (kp : Int) = (kp : Int) := IntWalk.i64_in _ (by omega); (have hj5 : (kp : Int) < (n : Int) := by omega); (have hj6 : (0 : Int) ≤ (kp : Int) := by omega); have HSw := Aside0.mk hSw; have HY := Aside0.mk hy2; clear hSw hy2 hy3 hr hpl; go_wp2
          go_big_region
          have HR5 := Aside0.mk (HSw.out.drew); have HC5 := Aside0.mk (((HC.out.setCell (p := ⟨g, off + (kp + 1), none⟩) (.inl rfl) (.int .i32 x)).setCell (p := ⟨g, off + kp, none⟩) (.inl rfl) (.int .i32 y)).drew); clear HSw HC c1 c2 c3 f1 f2 hj1 hj2 hj3 hj4 hj5 hj6; generalize ((wr.setCell ⟨g, off + (kp + 1), none⟩ (.int .i32 x)).setCell ⟨g, off + kp, none⟩ (.int .i32 y)).drew = w4 at HR5 HC5 ⊢; go_wp2; go_roundw
          case rel => exact ⟨kp, by go_num, by omega, by omega, ⟨by rw [HY.out]; have := HR5.out; simpa using this⟩, HC5⟩
          case measure => simp [intOf] <;> omega
        · have hd : decide ((i : Int) < (k : Int)) = false := decide_eq_false (by omega); have hd2 : decide (i < k) = false := decide_eq_false hlt; (obtain rfl : i = k := by omega); go_wp2; go_end0; exact ⟨rfl, HC.out, S.take (i - a) ++ y :: S.drop (i - a), by have := HRr.out; simpa using this, HO.out.1, HO.out.2⟩
end Go.Proofs.YthffpkdadffinaaDoor.Ns
namespace Go.Proofs.YthffpkdadffinaaDoor.Nt
set_option linter.unusedVariables false
set_option linter.unusedSimpArgs false
set_option linter.unusedVariables false
set_option linter.unusedSimpArgs false
open Go.RowKit YthffpkdadffinaaDoorW.PrintWords Hp Va Na Nb Nc Nd Nr Ns
def Merges (off n c g : Nat) (pre post : List Value) (L : Nat) : Prop :=
  ∀ (w : World) (A S T C : List Int) (a m b : Nat), G w → Srt S → Srt T → 0 < S.length → 0 < T.length → S.length + T.length ≤ L → Reg w g pre post (A ++ S ++ T ++ C) → n = (A ++ S ++ T ++ C).length → a = A.length → m = a + S.length → b = m + T.length →
    Calls Tryd.prog 127 #[.slice (some ⟨g, off, none⟩) n c, .int .i64 (a : Int), .int .i64 (m : Int), .int .i64 (b : Int), .func (.func 110) #[] #[]] w (InsPost w g pre post A (S ++ T) C)
set_option maxRecDepth 100000 in
set_option maxHeartbeats 8000000 in
theorem MrgG (g : Nat) (hg : 3 ≤ g) (pre post : List Value) (n c off L : Nat) (hn5 : n ≤ 1000000000000000) (hoff : off = pre.length) (ih : Merges off n c g pre post L)
    (w : World) (hG : G w) (A S T C : List Int) (hS : Srt S) (hT : Srt T) (hS0 : 1 < S.length) (hT0 : 1 < T.length) (hL : S.length + T.length ≤ L + 1) (hR : Reg w g pre post (A ++ S ++ T ++ C)) (hn : n = (A ++ S ++ T ++ C).length) (a m b : Nat) (ha : a = A.length) (hm : m = a + S.length) (hb : b = m + T.length) (mid : Nat) (hmid : mid = (a + b) / 2)
    (lo hi : Nat) (hlh : (mid < m ∧ lo = mid + m - b ∧ hi = mid) ∨ (m ≤ mid ∧ lo = a ∧ hi = m)) :
    Calls Tryd.prog 127 #[.slice (some ⟨g, off, none⟩) n c, .int .i64 (a : Int), .int .i64 (m : Int), .int .i64 (b : Int), .func (.func 110) #[] #[]] w (InsPost w g pre post A (S ++ T) C) := by
  have HG := Aside0.mk hG; have HR := Aside0.mk hR; have HS := Aside0.mk hS; have HT := Aside0.mk hT; have HF := Aside0.mk hoff; have HA := Aside0.mk ha; have HB := Aside0.mk hb; have HM := Aside0.mk hm; have HN := Aside0.mk hn; have HL := Aside0.mk hL; have HIH := Aside0.mk ih; have HLH := Aside0.mk hlh; (have hbn : b ≤ n := by rw [hb, hm, ha, hn]; simp <;> omega); (have hmb : m + 1 < b := by omega); (have ham : a + 1 < m := by omega); (have hamid : a < mid := by omega); (have hmidb : mid < b := by omega); (have hlo1 : a ≤ lo := by omega); (have hlo2 : mid + m - b ≤ lo := by omega); (have hlo3 : lo ≤ hi := by omega); (have hhi1 : hi ≤ m := by omega); (have hhi2 : hi ≤ mid := by omega); obtain ⟨q, hq⟩ : ∃ q : Nat, q = m - a := ⟨_, rfl⟩; obtain ⟨q2, hq2⟩ : ∃ q : Nat, q = b - m := ⟨_, rfl⟩; obtain ⟨N, hN⟩ : ∃ N : Nat, N = mid + m := ⟨_, rfl⟩; (have e1 : (m : Int) - (a : Int) = (q : Int) := by omega); (have e1b : ((q : Int) == 1) = false := by simp <;> omega); (have e2 : (b : Int) - (m : Int) = (q2 : Int) := by omega); (have e2b : ((q2 : Int) == 1) = false := by simp <;> omega); (have e3 : IntKind.u64.wrap ((a : Int) + (b : Int)) = (a : Int) + (b : Int) := by rw [IntKind.wrap_u64]; omega); (have e4 : ((a : Int) + (b : Int)) / 2 = (mid : Int) := by omega); (have e5 : (mid : Int) + (m : Int) = (N : Int) := by omega); (have e6 : (N : Int) - 1 = ((N - 1 : Nat) : Int) := by omega); have HNN := Aside0.mk hN; clear hG hR hn hoff ha hb hm hS hS0 hT hT0 hq hq2 hL hlh hmid hN ih; go_enter Tryd.func127, Tryd.ntmps127; go_upto_if 140 with (fail); go_cut [20, 21] (fun sv rv wc => sv = .int .i64 lo ∧ rv = .int .i64 hi ∧ wc = w)
  case first =>
    as_aux_lemma =>
    rcases HLH.out with ⟨h1, h2, h3⟩ | ⟨h1, h2, h3⟩
    · have h3 := h3.symm; subst h3; have hd0 : decide ((mid : Int) < (m : Int)) = true := decide_eq_true (by omega); have hd0b : decide (mid < m) = true := decide_eq_true h1; (have e7 : (N : Int) - (b : Int) = (lo : Int) := by have := HNN.out; omega); clear HLH h2; go_wp2; go_meet
      case rel => exact ⟨rfl, rfl, rfl⟩
    · have h2 := h2.symm; have h3 := h3.symm; subst h2 h3; have hd0 : decide ((mid : Int) < (m : Int)) = false := decide_eq_false (by omega); have hd0b : decide (mid < m) = false := decide_eq_false (by omega); clear HLH; go_wp2; go_meet
      case rel => exact ⟨rfl, rfl, rfl⟩
  case rest =>
    as_aux_lemma =>
    obtain ⟨h20, h21, hw⟩ := hcut; have hw := hw.symm; subst h20 h21 hw; go_wp2; go_loopw [20, 21, 23] (fun sv rv cv wr => ∃ s r : Nat, sv = .int .i64 s ∧ rv = .int .i64 r ∧ lo ≤ s ∧ s ≤ r ∧ r ≤ hi ∧ Aside0 (∀ t, lo ≤ t → t < s → K S (t - a) ≤ K T (mid - 1 - t)) ∧ Aside0 (∀ t, r ≤ t → t < hi → K T (mid - 1 - t) < K S (t - a)) ∧ Aside0 (Reg wr g pre post (A ++ S ++ T ++ C)) ∧ Aside0 (Chg (fun b => b = g) w wr)) (fun sv rv _ _ => (intOf rv).toNat - (intOf sv).toNat)
    case atStart => exact ⟨lo, hi, rfl, rfl, Nat.le_refl _, hlo3, Nat.le_refl _, ⟨fun t h1 h2 => by omega⟩, ⟨fun t h1 h2 => by omega⟩, HR, ⟨Chg.refl _ _⟩⟩
    case round =>
      obtain ⟨s, r, rfl, rfl, hs1, hsr, hr2, HLo, HHi, HRr, HC⟩ := hrel; by_cases hlt : s < r
      · have hd : decide ((s : Int) < (r : Int)) = true := decide_eq_true (by omega); obtain ⟨h, hh⟩ : ∃ h, h = (s + r) / 2 := ⟨_, rfl⟩; (have hh1 : s ≤ h := by omega); (have hh2 : h < r := by omega); (have hu1 : IntKind.u64.wrap ((s : Int) + (r : Int)) = (s : Int) + (r : Int) := by rw [IntKind.wrap_u64]; omega); (have hu2 : ((s : Int) + (r : Int)) / 2 = (h : Int) := by omega); have hu3 : IntKind.i64.wrap (h : Int) = (h : Int) := IntWalk.i64_in _ (by omega); obtain ⟨d, hd5⟩ : ∃ d, d = N - 1 - h := ⟨_, rfl⟩; (have hsub : ((N - 1 : Nat) : Int) - (h : Int) = (d : Int) := by have := HNN.out; omega); have hsub2 : IntKind.i64.wrap (d : Int) = (d : Int) := IntWalk.i64_in _ (by have := HNN.out; omega); obtain ⟨x, hx1, -, -, hx4⟩ := split_at (S := S) (t := h - a) (by have := HM.out; omega); obtain ⟨y, hy1, -, -, hy4⟩ := split_at (S := T) (t := mid - 1 - h) (by have := HB.out; have := HNN.out; omega); have c1 := HRr.out; rw [hx1, show A ++ (S.take (h - a) ++ x :: S.drop (h - a + 1)) ++ T ++ C = (A ++ S.take (h - a)) ++ x :: (S.drop (h - a + 1) ++ T ++ C) by simp] at c1; have c1 := Reg.one c1 HF.out (p := h) (by have := HA.out; have := HM.out; simp; omega); have c2 := HRr.out; rw [hy1, show A ++ S ++ (T.take (mid - 1 - h) ++ y :: T.drop (mid - 1 - h + 1)) ++ C = (A ++ S ++ T.take (mid - 1 - h)) ++ y :: (T.drop (mid - 1 - h + 1) ++ C) by simp] at c2; have c2 := Reg.one c2 HF.out (p := d) (by have := HA.out; have := HM.out; have := HB.out; have := HNN.out; simp; omega); have HX := Aside0.mk hx4; have HY := Aside0.mk hy4; (have hj1 : (h : Int) < (n : Int) := by omega); (have hj2 : (d : Int) < (n : Int) := by have := HNN.out; omega); have HT1 : Aside0 (∀ t, t ≤ h → lo ≤ t → K S (t - a) ≤ K S (h - a) ∧ K T (mid - 1 - h) ≤ K T (mid - 1 - t)) := ⟨fun t h1 h2 => ⟨srt_le HS.out (by omega) (by have := HM.out; omega), srt_le HT.out (by omega) (by have := HB.out; have := HNN.out; omega)⟩⟩; have HT2 : Aside0 (∀ t, h ≤ t → t < hi → K S (h - a) ≤ K S (t - a) ∧ K T (mid - 1 - t) ≤ K T (mid - 1 - h)) := ⟨fun t h1 h2 => ⟨srt_le HS.out (by omega) (by have := HM.out; omega), srt_le HT.out (by omega) (by have := HB.out; have := HNN.out; omega)⟩⟩; clear hx1 hx4 hy1 hy4 hh hd5; (have l1 : ∀ p : Aft wr, p.w'.cell? ⟨g, off + h, none⟩ = some (.int .i32 x) := fun p => p.cell c1); (have l2 : ∀ p : Aft wr, p.w'.cell? ⟨g, off + d, none⟩ = some (.int .i32 y) := fun p => p.cell c2); have HG2 := Aside0.mk (show ∀ p : Aft wr, G p.w' from fun p => (G_chg HG.out HC.out (fun k hk e => by omega)).below p.hb); clear c1 c2; by_cases hyx : cls y < cls x
        · (have hc : decide (cmpv (cls y) (cls x) < 0) = true := by rw [cmpv_neg]; exact decide_eq_true hyx); go_wp2; refine wp_region_aft (by kernel_rfl) (by kernel_rfl) ?_; (repeat (quiet_step (first | (go_at_call 110; exact aft_of (CmpP _ (HG2.out _) y x))))); refine wpQuiet_nil ?_; rintro w3 ⟨⟨_, hb3⟩, rfl⟩; have HR4 := Aside0.mk (HRr.out.below hb3); have HC4 := Aside0.mk (HC.out.then_below hb3); clear l1 l2 hb3 HG2 HRr HC; go_wp2; go_roundw
          case rel => exact ⟨s, h, rfl, rfl, by omega, by omega, by omega, HLo, ⟨fun t h1 h2 => by have := HT2.out t h1 h2; have := HX.out; have := HY.out; omega⟩, HR4, HC4⟩
          case measure => simp [intOf] <;> omega
        · (have hc : decide (cmpv (cls y) (cls x) < 0) = false := by rw [cmpv_neg]; exact decide_eq_false hyx); go_wp2; refine wp_region_aft (by kernel_rfl) (by kernel_rfl) ?_; (repeat (quiet_step (first | (go_at_call 110; exact aft_of (CmpP _ (HG2.out _) y x))))); refine wpQuiet_nil ?_; rintro w3 ⟨⟨_, hb3⟩, rfl⟩; have HR4 := Aside0.mk (HRr.out.below hb3); have HC4 := Aside0.mk (HC.out.then_below hb3); clear l1 l2 hb3 HG2 HRr HC; go_wp2; go_roundw
          case rel => exact ⟨h + 1, r, by go_num, rfl, by omega, by omega, by omega, ⟨fun t h1 h2 => by have := HT1.out t (by omega) (by omega); have := HX.out; have := HY.out; omega⟩, HHi, HR4, HC4⟩
          case measure => simp [intOf] <;> omega
      · have hd : decide ((s : Int) < (r : Int)) = false := decide_eq_false (by omega); (obtain rfl : s = r := by omega); (have e8 : (N : Int) - (s : Int) = ((N - s : Nat) : Int) := by have := HNN.out; omega); obtain ⟨E, hE⟩ : ∃ E, E = N - s := ⟨_, rfl⟩; rw [← hE] at e8; have HE := Aside0.mk hE
        have HP := Aside0.mk (parted (S1 := S) (S2 := T) (s := s - a) (e := mid - s) HS.out HT.out (by have := HM.out; omega) (by have := HB.out; have := HNN.out; omega) (fun h1 h2 => by
          have := HLo.out (s - 1) (by have := HB.out; have := HNN.out; have := HLH.out; omega) (by omega); rw [show s - 1 - a = s - a - 1 by omega, show mid - 1 - (s - 1) = mid - s by omega] at this
          exact this) (fun h1 h2 => by
          have := HHi.out s (Nat.le_refl _) (by have := HM.out; have := HLH.out; omega); rw [show mid - 1 - s = mid - s - 1 by omega] at this
          exact this))
        clear HLo HHi hE; go_upto_region 39 with (fail); obtain ⟨P, hP⟩ : ∃ P, P = S.take (s - a) := ⟨_, rfl⟩; obtain ⟨U, hU⟩ : ∃ U, U = S.drop (s - a) := ⟨_, rfl⟩; obtain ⟨V, hV⟩ : ∃ V, V = T.take (mid - s) := ⟨_, rfl⟩; obtain ⟨Q, hQ⟩ : ∃ Q, Q = T.drop (mid - s) := ⟨_, rfl⟩; (have hSe : P ++ U = S := by rw [hP, hU, List.take_append_drop]); (have hTe : V ++ Q = T := by rw [hV, hQ, List.take_append_drop]); have HPl := Aside0.mk (show P.length = s - a by have := HM.out; rw [hP, List.length_take]; omega); have HUl := Aside0.mk (show U.length = m - s by have := HM.out; rw [hU, List.length_drop]; omega); have HVl := Aside0.mk (show V.length = mid - s by have := HB.out; have := HNN.out; rw [hV, List.length_take]; omega); have HQl := Aside0.mk (show Q.length = b - E by have := HB.out; have := HNN.out; have := HE.out; rw [hQ, List.length_drop]; omega); have HPU := Aside0.mk (show Srt (P ++ U) by rw [hSe]; exact HS.out); have HVQ := Aside0.mk (show Srt (V ++ Q) by rw [hTe]; exact HT.out); have HST := Aside0.mk (show S ++ T = P ++ U ++ (V ++ Q) by rw [hSe, hTe]); have HNl := Aside0.mk (show n = A.length + P.length + U.length + V.length + Q.length + C.length by rw [HN.out, ← hSe, ← hTe]; simp only [List.length_append]; omega); rw [← hP, ← hU, ← hV, ← hQ] at HP; rw [← hSe, ← hTe] at HRr; clear hP hU hV hQ hSe hTe; go_cut [185] (fun tv wc => ∃ cc : Bool, tv = .bool cc ∧ (cc = true ↔ 0 < U.length ∧ 0 < V.length) ∧ wc = wr)
        case first =>
          as_aux_lemma =>
          by_cases hu : s < m
          · have t1 : decide ((s : Int) < (m : Int)) = true := decide_eq_true (by omega); have t1b : decide (s < m) = true := decide_eq_true hu; by_cases hv : m < E
            · have t2 : decide ((m : Int) < (E : Int)) = true := decide_eq_true (by omega); have t2b : decide (m < E) = true := decide_eq_true hv; go_wp2; go_meet
              case rel => exact ⟨true, rfl, ⟨fun _ => ⟨by have := HUl.out; have := HVl.out; have := HE.out; have := HNN.out; omega, by have := HUl.out; have := HVl.out; have := HE.out; have := HNN.out; omega⟩, fun _ => rfl⟩, rfl⟩
            · have t2 : decide ((m : Int) < (E : Int)) = false := decide_eq_false (by omega); have t2b : decide (m < E) = false := decide_eq_false hv; go_wp2; go_meet
              case rel => exact ⟨false, rfl, ⟨fun h => (by cases h), fun h => by have := HUl.out; have := HVl.out; have := HE.out; have := HNN.out; have := h.1; have := h.2; omega⟩, rfl⟩
          · have t1 : decide ((s : Int) < (m : Int)) = false := decide_eq_false (by omega); have t1b : decide (s < m) = false := decide_eq_false hu; go_wp2; go_meet
            case rel => exact ⟨false, rfl, ⟨fun h => (by cases h), fun h => by have := HUl.out; have := HVl.out; have := HE.out; have := HNN.out; have := h.1; have := h.2; omega⟩, rfl⟩
        case rest =>
          as_aux_lemma =>
          obtain ⟨cc, h1, hcc, hw⟩ := hcut; subst h1 hw; have HCC := Aside0.mk hcc; clear hcc; go_upto_if 185 with (fail); go_cut [] (fun wc => Aside0 (Reg wc g pre post (A ++ (P ++ V) ++ (U ++ Q) ++ C)) ∧ Aside0 (Chg (fun b => b = g) w wc))
          case first =>
            as_aux_lemma =>
            cases cc
            · (have ha1 : ¬ (0 < U.length ∧ 0 < V.length) := fun h => by cases HCC.out.2 h); go_wp2; go_meet
              case rel =>
                refine ⟨⟨?_⟩, HC⟩; have := HRr.out; rcases List.eq_nil_or_concat U with h | ⟨_, _, h⟩
                · rw [h] at this ⊢; simp only [List.append_assoc, List.nil_append] at this ⊢; exact this
                · rcases List.eq_nil_or_concat V with h2 | ⟨_, _, h2⟩
                  · rw [h2] at this ⊢; simp only [List.append_assoc, List.nil_append] at this ⊢; exact this
                  · exact absurd ⟨by rw [h]; simp, by rw [h2]; simp⟩ ha1
            · have ha1 : 0 < U.length ∧ 0 < V.length := HCC.out.1 rfl; have HCall := Aside0.mk (RotP _ g pre post (A ++ P) U V (Q ++ C) c (by have := HRr.out; simp only [List.append_assoc] at this ⊢; exact this) ha1.1 ha1.2 n (by rw [HNl.out]; simp only [List.length_append]; omega) hn5 off HF.out s m E (by have := HA.out; have := HPl.out; simp only [List.length_append]; omega) (by have := HA.out; have := HPl.out; have := HUl.out; simp only [List.length_append]; omega) (by have := HA.out; have := HPl.out; have := HUl.out; have := HVl.out; have := HNN.out; have := HE.out; simp only [List.length_append]; omega)); go_wp2_with (first | (go_at_call 128; go_must (refine HCall.out.mono ?_; rintro e w2 ⟨rfl, p1, p2⟩; have HC1 := Aside0.mk (HC.out.trans p1 (fun _ _ h => h)); have HR1 := Aside0.mk (show Reg w2 g pre post (A ++ (P ++ V) ++ (U ++ Q) ++ C) by simp only [List.append_assoc] at p2 ⊢; exact p2); clear p1 p2 HC HRr))); go_meet
              case rel => exact ⟨HR1, HC1⟩
          case rest =>
            as_aux_lemma =>
            obtain ⟨HR1, HC1⟩ := hcut; clear HRr HC HCC; go_upto_region 41 with (fail); go_cut [199] (fun tv wd => ∃ cc : Bool, tv = .bool cc ∧ (cc = true ↔ 0 < P.length ∧ 0 < V.length) ∧ wd = wc)
            case first =>
              as_aux_lemma =>
              by_cases hu : a < s
              · have t1 : decide ((a : Int) < (s : Int)) = true := decide_eq_true (by omega); have t1b : decide (a < s) = true := decide_eq_true hu; by_cases hv : s < mid
                · have t2 : decide ((s : Int) < (mid : Int)) = true := decide_eq_true (by omega); have t2b : decide (s < mid) = true := decide_eq_true hv; go_wp2; go_meet
                  case rel => exact ⟨true, rfl, ⟨fun _ => ⟨by have := HPl.out; have := HVl.out; omega, by have := HPl.out; have := HVl.out; omega⟩, fun _ => rfl⟩, rfl⟩
                · have t2 : decide ((s : Int) < (mid : Int)) = false := decide_eq_false (by omega); have t2b : decide (s < mid) = false := decide_eq_false hv; go_wp2; go_meet
                  case rel => exact ⟨false, rfl, ⟨fun h => (by cases h), fun h => by have := HPl.out; have := HVl.out; have := h.1; have := h.2; omega⟩, rfl⟩
              · have t1 : decide ((a : Int) < (s : Int)) = false := decide_eq_false (by omega); have t1b : decide (a < s) = false := decide_eq_false hu; go_wp2; go_meet
                case rel => exact ⟨false, rfl, ⟨fun h => (by cases h), fun h => by have := HPl.out; have := HVl.out; have := h.1; have := h.2; omega⟩, rfl⟩
            case rest =>
              as_aux_lemma =>
              obtain ⟨cc, h1, hcc, hw⟩ := hcut; subst h1 hw; have HCC := Aside0.mk hcc; clear hcc; go_upto_if 199 with (fail); go_cut [] (fun wd => ∃ X, Aside0 (Srt X ∧ Sw (P ++ V) X) ∧ Aside0 (X.length = P.length + V.length) ∧ Aside0 (Reg wd g pre post (A ++ X ++ (U ++ Q) ++ C)) ∧ Aside0 (Chg (fun b => b = g) w wd))
              case first =>
                as_aux_lemma =>
                cases cc
                · (have hp0 : ¬ (0 < P.length ∧ 0 < V.length) := fun h => by cases HCC.out.2 h); obtain ⟨X, hXe⟩ : ∃ X, X = P ++ V := ⟨_, rfl⟩
                  have HX := Aside0.mk (show Srt X ∧ Sw (P ++ V) X by
                    rw [hXe]; refine ⟨?_, Sw.refl _⟩; rcases List.eq_nil_or_concat P with h | ⟨_, _, h⟩
                    · rw [h]; exact srt_left HVQ.out
                    · rcases List.eq_nil_or_concat V with h2 | ⟨_, _, h2⟩
                      · rw [h2, List.append_nil]; exact srt_left HPU.out
                      · exact absurd ⟨by rw [h]; simp, by rw [h2]; simp⟩ hp0)
                  have HXl := Aside0.mk (show X.length = P.length + V.length by rw [hXe]; simp); rw [← hXe] at HR1; clear hXe; go_wp2; go_meet
                  case rel => exact ⟨X, HX, HXl, HR1, HC1⟩
                · have hp0 : 0 < P.length ∧ 0 < V.length := HCC.out.1 rfl; have HCall2 := Aside0.mk (HIH.out _ A P V (U ++ Q ++ C) a s mid (G_chg HG.out HC1.out (fun k hk e => by omega)) (srt_left HPU.out) (srt_left HVQ.out) hp0.1 hp0.2 (by have := HL.out; have := HPl.out; have := HVl.out; have := HB.out; have := HM.out; omega) (by have := HR1.out; simp only [List.append_assoc] at this ⊢; exact this) (by have := HNl.out; have := HPl.out; have := HUl.out; have := HVl.out; have := HQl.out; simp only [List.length_append]; omega) HA.out (by have := HPl.out; omega) (by have := HVl.out; omega)); go_wp2_with (first | (go_at_call 127; go_must (refine HCall2.out.mono ?_; rintro e w4 ⟨rfl, p1, X, p2, p3, p4⟩; have HC3 := Aside0.mk (HC1.out.trans p1 (fun _ _ h => h)); have HR3 := Aside0.mk (show Reg w4 g pre post (A ++ X ++ (U ++ Q) ++ C) by simp only [List.append_assoc] at p2 ⊢; exact p2); have HXl := Aside0.mk (show X.length = P.length + V.length by rw [← p4.length]; simp); have HX := Aside0.mk (And.intro p3 p4); clear p1 p2 p3 p4 HR1 HC1))); go_meet
                  case rel => exact ⟨X, HX, HXl, HR3, HC3⟩
              case rest =>
                as_aux_lemma =>
                obtain ⟨X, HX, HXl, HR3, HC3⟩ := hcut; clear HR1 HC1 HCC; go_upto_region 43 with (fail); by_cases hu0 : 0 < U.length ∧ 0 < Q.length
                · have t5 : decide ((mid : Int) < (E : Int)) = true := decide_eq_true (by have := HNN.out; have := HE.out; have := HUl.out; omega); have t5b : decide (mid < E) = true := decide_eq_true (by have := HNN.out; have := HE.out; have := HUl.out; omega); have t6 : decide ((E : Int) < (b : Int)) = true := decide_eq_true (by have := HNN.out; have := HE.out; have := HQl.out; have := HB.out; omega); have t6b : decide (E < b) = true := decide_eq_true (by have := HNN.out; have := HE.out; have := HQl.out; have := HB.out; omega); have HCall3 := Aside0.mk (HIH.out _ (A ++ X) U Q C mid E b (G_chg HG.out HC3.out (fun k hk e => by omega)) (srt_right HPU.out) (srt_right HVQ.out) hu0.1 hu0.2 (by have := HL.out; have := HUl.out; have := HQl.out; have := HB.out; have := HM.out; omega) (by have := HR3.out; simp only [List.append_assoc] at this ⊢; exact this) (by have := HNl.out; have := HXl.out; have := HPl.out; have := HUl.out; have := HVl.out; have := HQl.out; simp only [List.length_append]; omega) (by have := HXl.out; have := HPl.out; have := HVl.out; have := HA.out; simp only [List.length_append]; omega) (by have := HNN.out; have := HE.out; have := HUl.out; omega) (by have := HNN.out; have := HE.out; have := HQl.out; have := HB.out; omega)); go_wp2_with (first | (go_at_call 127; go_must (refine HCall3.out.mono ?_; rintro e w5 ⟨rfl, p1, Y, p2, p3, p4⟩; have C5 := Aside0.mk (HC3.out.trans p1 (fun _ _ h => h)); have R5 := Aside0.mk p2; have Y5 := Aside0.mk (And.intro p3 p4); clear p1 p2 p3 p4))); go_end0; have hv := halves (X := X) (Y := Y) HPU.out HVQ.out HP.out.1 HP.out.2 HX.out.1 HX.out.2 Y5.out.1 Y5.out.2; exact ⟨rfl, C5.out, X ++ Y, by have := R5.out; simp only [List.append_assoc] at this ⊢; exact this, hv.1, by rw [HST.out]; exact hv.2⟩
                · have HY := Aside0.mk (show Srt (U ++ Q) by
                    rcases List.eq_nil_or_concat U with h | ⟨_, _, h⟩
                    · rw [h]; exact srt_right HVQ.out
                    · rcases List.eq_nil_or_concat Q with h2 | ⟨_, _, h2⟩
                      · rw [h2, List.append_nil]; exact srt_right HPU.out
                      · exact absurd ⟨by rw [h]; simp, by rw [h2]; simp⟩ hu0)
                  by_cases hu1 : 0 < U.length
                  · have t5 : decide ((mid : Int) < (E : Int)) = true := decide_eq_true (by have := HNN.out; have := HE.out; have := HUl.out; omega); have t5b : decide (mid < E) = true := decide_eq_true (by have := HNN.out; have := HE.out; have := HUl.out; omega); have t6 : decide ((E : Int) < (b : Int)) = false := decide_eq_false (by have := HNN.out; have := HE.out; have := HQl.out; have := HB.out; omega); have t6b : decide (E < b) = false := decide_eq_false (by have := HNN.out; have := HE.out; have := HQl.out; have := HB.out; omega); go_wp2; go_end0; have hv := halves (X := X) (Y := U ++ Q) HPU.out HVQ.out HP.out.1 HP.out.2 HX.out.1 HX.out.2 HY.out (Sw.refl _); exact ⟨rfl, HC3.out, X ++ (U ++ Q), by have := HR3.out; simp only [List.append_assoc] at this ⊢; exact this, hv.1, by rw [HST.out]; exact hv.2⟩
                  · have t5 : decide ((mid : Int) < (E : Int)) = false := decide_eq_false (by have := HNN.out; have := HE.out; have := HUl.out; omega); have t5b : decide (mid < E) = false := decide_eq_false (by have := HNN.out; have := HE.out; have := HUl.out; omega); go_wp2; go_end0; have hv := halves (X := X) (Y := U ++ Q) HPU.out HVQ.out HP.out.1 HP.out.2 HX.out.1 HX.out.2 HY.out (Sw.refl _); exact ⟨rfl, HC3.out, X ++ (U ++ Q), by have := HR3.out; simp only [List.append_assoc] at this ⊢; exact this, hv.1, by rw [HST.out]; exact hv.2⟩
end Go.Proofs.YthffpkdadffinaaDoor.Nt
namespace Go.Proofs.YthffpkdadffinaaDoor.Nw
set_option linter.unusedVariables false
set_option linter.unusedSimpArgs false
open Go.RowKit YthffpkdadffinaaDoorW.PrintWords Hp Va Na Nb Nc Nd Nr Ns Nt
theorem MrgP (g : Nat) (hg : 3 ≤ g) (pre post : List Value) (n c off : Nat) (hn5 : n ≤ 1000000000000000) (hoff : off = pre.length) : ∀ L, Merges off n c g pre post L
  | 0 => fun w A S T C a m b hG hS hT h1 h2 h3 => by omega
  | L + 1 => fun w A S T C a m b hG hS hT h1 h2 h3 hR hn ha hm hb => by
    match S, h1 with
    | [x], _ =>
      exact MrgL w hG g hg pre post A T C x c hT h2 hR n hn hn5 off hoff a m b ha (by simpa using hm) hb
    | x :: y :: S', _ =>
      match T, h2 with
      | [z], _ =>
        exact MrgR w hG g hg pre post A (x :: y :: S') C z c hS (by simp) hR n hn hn5 off hoff a m b ha hm (by simpa using hb)
      | z :: u :: T', _ =>
        (have h1 : 1 < (x :: y :: S').length := by simp); (have h2 : 1 < (z :: u :: T').length := by simp); by_cases hc : (a + b) / 2 < m
        · exact MrgG g hg pre post n c off L hn5 hoff (MrgP g hg pre post n c off hn5 hoff L) w hG A _ _ C hS hT h1 h2 h3 hR hn a m b ha hm hb _ rfl _ _ (.inl ⟨hc, rfl, rfl⟩)
        · exact MrgG g hg pre post n c off L hn5 hoff (MrgP g hg pre post n c off hn5 hoff L) w hG A _ _ C hS hT h1 h2 h3 hR hn a m b ha hm hb _ rfl _ _ (.inr ⟨by omega, rfl, rfl⟩)
def Full (B : Nat) (A : List Int) : Prop := ∃ cs : List (List Int), A = cs.flatten ∧ ∀ c ∈ cs, c.length = B ∧ Srt c
def Bs (B : Nat) (R : List Int) : Prop := ∃ (cs : List (List Int)) (t : List Int), R = cs.flatten ++ t ∧ (∀ c ∈ cs, c.length = B ∧ Srt c) ∧ t.length < B ∧ Srt t
theorem Full.nil (B : Nat) : Full B [] := ⟨[], rfl, fun _ h => by cases h⟩
theorem Full.snoc {B : Nat} {A c : List Int} (h : Full B A) (hc : c.length = B) (hs : Srt c) : Full B (A ++ c) := by
  obtain ⟨cs, rfl, h⟩ := h; refine ⟨cs ++ [c], by simp, fun d hd => ?_⟩; rcases List.mem_append.1 hd with hd | hd
  · exact h d hd
  · rw [List.mem_singleton.1 hd]; exact ⟨hc, hs⟩
theorem Full.bs {B : Nat} {A t : List Int} (h : Full B A) (hc : t.length < B) (hs : Srt t) : Bs B (A ++ t) := by
  obtain ⟨cs, rfl, h⟩ := h; exact ⟨cs, t, rfl, h, hc, hs⟩
theorem Bs.two {B : Nat} {R : List Int} (h : Bs B R) (hl : 2 * B ≤ R.length) : ∃ S T R', R = S ++ T ++ R' ∧ S.length = B ∧ T.length = B ∧ Srt S ∧ Srt T ∧ Bs B R' := by
  obtain ⟨cs, t, rfl, h, h1, h2⟩ := h
  match cs, h, hl with
  | [], _, hl => simp only [List.flatten_nil, List.nil_append] at hl; omega
  | [c], h, hl =>
    have := (h c (by simp)).1; simp only [List.flatten_cons, List.flatten_nil, List.append_nil, List.length_append] at hl; omega
  | c :: d :: cs, h, _ =>
    exact ⟨c, d, cs.flatten ++ t, by simp, (h c (by simp)).1, (h d (by simp)).1, (h c (by simp)).2, (h d (by simp)).2, cs, t, rfl, fun e he => h e (by simp [he]), h1, h2⟩
theorem Bs.rest {B : Nat} {R : List Int} (h : Bs B R) (hl : R.length < 2 * B) : (R.length ≤ B ∧ Srt R) ∨ ∃ S T, R = S ++ T ∧ S.length = B ∧ 0 < T.length ∧ Srt S ∧ Srt T := by
  obtain ⟨cs, t, rfl, h, h1, h2⟩ := h
  match cs, h, hl with
  | [], _, _ => exact .inl ⟨by simp only [List.flatten_nil, List.nil_append]; omega, by simpa using h2⟩
  | [c], h, _ =>
    have hc := h c (by simp); rcases Nat.eq_zero_or_pos t.length with ht | ht
    · rw [List.eq_nil_of_length_eq_zero ht]; exact .inl ⟨by simp [hc.1], by simpa using hc.2⟩
    · exact .inr ⟨c, t, by simp, hc.1, ht, hc.2, h2⟩
  | c :: d :: cs, h, hl =>
    have := (h c (by simp)).1; have := (h d (by simp)).1; simp only [List.flatten_cons, List.length_append] at hl; omega
def SrtPost (w : World) (g : Nat) (pre post : List Value) (l : List Int) (e : Ending) (w' : World) : Prop :=
  e = .returned (.tuple #[]) ∧ Chg (fun b => b = g) w w' ∧ ∃ S, Reg w' g pre post S ∧ Srt S ∧ Sw l S
set_option maxRecDepth 100000 in
set_option maxHeartbeats 8000000 in
theorem StbP (w : World) (hG : G w) (g : Nat) (hg : 3 ≤ g) (pre post : List Value) (l : List Int) (hR : Reg w g pre post l) (n c off : Nat) (hn : n = l.length) (hn5 : n ≤ 1000000000000000) (hoff : off = pre.length) :
    Calls Tryd.prog 123 #[.slice (some ⟨g, off, none⟩) n c, .int .i64 (n : Int), .func (.func 110) #[] #[]] w (SrtPost w g pre post l) := by
  have HG := Aside0.mk hG; have HR := Aside0.mk hR; have HF := Aside0.mk hoff; have HN := Aside0.mk hn; clear hG hR hn hoff; go_enter Tryd.func123, Tryd.ntmps123; go_wp2; go_loopw [7, 8] (fun av bv wr => ∃ (a b : Nat) (A R : List Int), av = .int .i64 a ∧ bv = .int .i64 b ∧ b = a + 20 ∧ a ≤ n ∧ Aside0 (a = A.length) ∧ Aside0 (Full 20 A) ∧ Aside0 (n = A.length + R.length) ∧ Aside0 (Reg wr g pre post (A ++ R)) ∧ Aside0 (Sw l (A ++ R)) ∧ Aside0 (Chg (fun b => b = g) w wr)) (fun av _ _ => n - (intOf av).toNat)
  case atStart => exact ⟨0, 20, [], l, rfl, rfl, rfl, Nat.zero_le _, ⟨rfl⟩, ⟨Full.nil _⟩, ⟨by rw [HN.out]; simp⟩, HR, ⟨Sw.refl _⟩, ⟨Chg.refl _ _⟩⟩
  case round =>
    obtain ⟨a, b, A, R, rfl, rfl, hb, han, HA, HFu, HNl, HRr, HSw, HC⟩ := hrel; have HB := Aside0.mk hb; clear hb; by_cases hlt : b ≤ n
    · have hd : decide ((b : Int) ≤ (n : Int)) = true := decide_eq_true (by omega); have hd2 : decide (b ≤ n) = true := decide_eq_true hlt; have HCall := Aside0.mk (InsP wr (G_chg HG.out HC.out (fun k hk e => by omega)) g hg pre post A (R.take 20) (R.drop 20) c (by have := HRr.out; rw [List.append_assoc, List.take_append_drop]; exact this) n (by rw [HNl.out]; have := HB.out; simp only [List.length_append, List.length_take, List.length_drop]; omega) hn5 off HF.out a b HA.out (by have := HNl.out; have := HA.out; have := HB.out; simp only [List.length_take]; omega)); go_wp2_with (first | (go_at_call 126; go_must (refine HCall.out.mono ?_; rintro e w2 ⟨rfl, p1, X, p2, p3, p4⟩; have HC1 := Aside0.mk (HC.out.trans p1 (fun _ _ h => h)); have HR1 := Aside0.mk p2; have HX := Aside0.mk (And.intro p3 p4); clear p1 p2 p3 p4 HC HRr))); go_roundw
      case rel =>
        have := HNl.out; have := HA.out; have := HB.out; (have hxl : X.length = 20 := by rw [← HX.out.2.length, List.length_take]; omega); exact ⟨b, b + 20, A ++ X, R.drop 20, rfl, by go_num, rfl, hlt, ⟨by rw [List.length_append]; omega⟩, ⟨HFu.out.snoc hxl HX.out.1⟩, ⟨by simp only [List.length_append, List.length_drop]; omega⟩, HR1, ⟨HSw.out.trans (by have h := ((Sw.refl A).append HX.out.2).append (Sw.refl (R.drop 20)); rw [List.append_assoc A (R.take 20), List.take_append_drop] at h; exact h)⟩, HC1⟩
      case measure => have := HB.out; simp [intOf] <;> omega
    · have hd : decide ((b : Int) ≤ (n : Int)) = false := decide_eq_false (by omega); have hd2 : decide (b ≤ n) = false := decide_eq_false hlt; have HCall := Aside0.mk (InsP wr (G_chg HG.out HC.out (fun k hk e => by omega)) g hg pre post A R [] c (by have := HRr.out; rw [List.append_nil]; exact this) n (by rw [HNl.out]; simp only [List.length_append, List.length_nil]; omega) hn5 off HF.out a n HA.out HNl.out); go_wp2_with (first | (go_at_call 126; go_must (refine HCall.out.mono ?_; rintro e w2 ⟨rfl, p1, X, p2, p3, p4⟩; have HC1 := Aside0.mk (HC.out.trans p1 (fun _ _ h => h)); have HR1 := Aside0.mk p2; have HX := Aside0.mk (And.intro p3 p4); clear p1 p2 p3 p4 HC HRr))); have HBs : Aside0 (Bs 20 (A ++ X)) := ⟨HFu.out.bs (by have := HX.out.2.length; have := HNl.out; have := HA.out; have := HB.out; omega) HX.out.1⟩; have HR2 : Aside0 (Reg w2 g pre post (A ++ X)) := ⟨by have := HR1.out; rw [List.append_nil] at this; exact this⟩; have HS2 : Aside0 (Sw l (A ++ X)) := ⟨HSw.out.trans ((Sw.refl A).append HX.out.2)⟩; obtain ⟨L, hL⟩ : ∃ L, L = A ++ X := ⟨_, rfl⟩; rw [← hL] at HBs HR2 HS2; clear hL HR1 HX HSw HNl HFu HA HB HCall hd hd2 hlt; go_loopw [6] (fun Bv wr => ∃ (B : Nat) (L : List Int), Bv = .int .i64 B ∧ 20 ≤ B ∧ B ≤ 2 * n + 20 ∧ Aside0 (Bs B L) ∧ Aside0 (Reg wr g pre post L) ∧ Aside0 (Sw l L) ∧ Aside0 (Chg (fun b => b = g) w wr)) (fun Bv _ => n - (intOf Bv).toNat)
      case atStart => exact ⟨20, L, rfl, Nat.le_refl _, by omega, HBs, HR2, HS2, HC1⟩
      case round =>
        clear HBs HR2 HS2 HC1; obtain ⟨B, M, rfl, hB1, hB2, HBs, HR2, HS2, HC1⟩ := hrel; have HNM := Aside0.mk (show n = M.length by rw [HN.out]; exact HS2.out.length); by_cases hBn : B < n
        · have hd : decide ((B : Int) < (n : Int)) = true := decide_eq_true (by omega); have hd2 : decide (B < n) = true := decide_eq_true hBn; obtain ⟨D, hD⟩ : ∃ D, D = 2 * B := ⟨_, rfl⟩; (have eD : (2 : Int) * (B : Int) = (D : Int) := by omega); have HD := Aside0.mk hD; (have hDn : D ≤ 2 * n := by omega); clear hD; go_wp2; go_loopw [7, 8] (fun av bv wr => ∃ (a b : Nat) (A R : List Int), av = .int .i64 a ∧ bv = .int .i64 b ∧ b = a + D ∧ a ≤ n ∧ Aside0 (a = A.length) ∧ Aside0 (Full D A) ∧ Aside0 (Bs B R) ∧ Aside0 (n = A.length + R.length) ∧ Aside0 (Reg wr g pre post (A ++ R)) ∧ Aside0 (Sw l (A ++ R)) ∧ Aside0 (Chg (fun b => b = g) w wr)) (fun av _ _ => n - (intOf av).toNat)
          case atStart => exact ⟨0, D, [], M, rfl, rfl, by omega, Nat.zero_le _, ⟨rfl⟩, ⟨Full.nil _⟩, HBs, ⟨by rw [HNM.out]; simp⟩, HR2, HS2, HC1⟩
          case round =>
            clear HBs HR2 HS2 HC1 HNM; obtain ⟨a, b, A, R, rfl, rfl, hb, han, HA, HFu, HBs, HNl, HRr, HSw, HC⟩ := hrel; obtain ⟨m, hm⟩ : ∃ m, m = a + B := ⟨_, rfl⟩; (have em : (a : Int) + (B : Int) = (m : Int) := by omega); have HB := Aside0.mk hb; clear hb; by_cases hlt : b ≤ n
            · have hd : decide ((b : Int) ≤ (n : Int)) = true := decide_eq_true (by omega); have hd2 : decide (b ≤ n) = true := decide_eq_true hlt; obtain ⟨S, T, R', hRe, hSl, hTl, hSs, hTs, hRb⟩ := HBs.out.two (by have := HNl.out; have := HA.out; have := HD.out; have := HB.out; omega); have HCall := Aside0.mk (MrgP g hg pre post n c off hn5 HF.out _ wr A S T R' a m b (G_chg HG.out HC.out (fun k hk e => by omega)) hSs hTs (by omega) (by omega) (Nat.le_refl _) (by have := HRr.out; rw [hRe] at this; simp only [List.append_assoc] at this ⊢; exact this) (by rw [HNl.out, hRe]; simp only [List.length_append]; omega) HA.out (by omega) (by have := HD.out; have := HB.out; omega)); have HRe := Aside0.mk (And.intro hRe (And.intro hSl (And.intro hTl hRb))); clear hRe hSl hTl hSs hTs hRb hm; go_wp2_with (first | (go_at_call 127; go_must (refine HCall.out.mono ?_; rintro e w2 ⟨rfl, p1, X, p2, p3, p4⟩; have HC1 := Aside0.mk (HC.out.trans p1 (fun _ _ h => h)); have HR1 := Aside0.mk p2; have HX := Aside0.mk (And.intro p3 p4); clear p1 p2 p3 p4 HC HRr))); go_roundw
              case rel =>
                have := HNl.out; have := HA.out; obtain ⟨hRe, hSl, hTl, hRb⟩ := HRe.out; (have hxl : X.length = D := by rw [← HX.out.2.length, List.length_append, HD.out]; omega); (have hrl : R.length = S.length + T.length + R'.length := by rw [hRe]; simp only [List.length_append]); have := HD.out; have := HB.out; exact ⟨b, b + D, A ++ X, R', rfl, by go_num, rfl, hlt, ⟨by rw [List.length_append]; omega⟩, ⟨HFu.out.snoc hxl HX.out.1⟩, ⟨hRb⟩, ⟨by simp only [List.length_append]; omega⟩, HR1, ⟨HSw.out.trans (by have h := ((Sw.refl A).append HX.out.2).append (Sw.refl R'); rw [hRe]; simp only [List.append_assoc] at h ⊢; exact h)⟩, HC1⟩
              case measure => have := HB.out; have := HD.out; simp [intOf] <;> omega
            · have hd : decide ((b : Int) ≤ (n : Int)) = false := decide_eq_false (by omega); have hd2 : decide (b ≤ n) = false := decide_eq_false hlt; rcases HBs.out.rest (by have := HNl.out; have := HA.out; have := HD.out; have := HB.out; omega) with ⟨hRl, hRs⟩ | ⟨S, T, hRe, hSl, hTl, hSs, hTs⟩
              · have hq : decide ((m : Int) < (n : Int)) = false := decide_eq_false (by have := HNl.out; have := HA.out; omega); have hq2 : decide (m < n) = false := decide_eq_false (by have := HNl.out; have := HA.out; omega); have HX := Aside0.mk (And.intro hRl hRs); clear hRl hRs hm; go_wp2; go_roundw
                case rel => exact ⟨D, A ++ R, by rw [Int.mul_comm, eD], by have := HD.out; omega, by omega, ⟨HFu.out.bs (by have := HX.out.1; have := HD.out; omega) HX.out.2⟩, HRr, HSw, HC⟩
                case measure => simp [intOf] <;> (have := HD.out; omega)
              · (have hrl : R.length = S.length + T.length := by rw [hRe]; simp only [List.length_append]); have hq : decide ((m : Int) < (n : Int)) = true := decide_eq_true (by have := HNl.out; have := HA.out; omega); have hq2 : decide (m < n) = true := decide_eq_true (by have := HNl.out; have := HA.out; omega); have HCall := Aside0.mk (MrgP g hg pre post n c off hn5 HF.out _ wr A S T [] a m n (G_chg HG.out HC.out (fun k hk e => by omega)) hSs hTs (by omega) hTl (Nat.le_refl _) (by have := HRr.out; rw [hRe] at this; simp only [List.append_assoc, List.append_nil] at this ⊢; exact this) (by rw [HNl.out, hRe]; simp only [List.length_append, List.length_nil]; omega) HA.out (by omega) (by have := HNl.out; have := HA.out; omega)); have HRe := Aside0.mk (And.intro hRe hrl); clear hRe hSl hTl hSs hTs hm hrl; go_wp2_with (first | (go_at_call 127; go_must (refine HCall.out.mono ?_; rintro e w2 ⟨rfl, p1, X, p2, p3, p4⟩; have HC1 := Aside0.mk (HC.out.trans p1 (fun _ _ h => h)); have HR1 := Aside0.mk p2; have HX := Aside0.mk (And.intro p3 p4); clear p1 p2 p3 p4 HC HRr))); go_roundw
                case rel =>
                  have := HNl.out; have := HA.out; obtain ⟨hRe, hrl⟩ := HRe.out; (have hxl : X.length = R.length := by rw [← HX.out.2.length, hRe]); exact ⟨D, A ++ X, by rw [Int.mul_comm, eD], by have := HD.out; omega, by omega, ⟨HFu.out.bs (by have := HD.out; have := HB.out; omega) HX.out.1⟩, ⟨by have := HR1.out; rw [List.append_nil] at this; exact this⟩, ⟨HSw.out.trans (by rw [hRe]; exact (Sw.refl A).append HX.out.2)⟩, HC1⟩
                case measure => simp [intOf] <;> (have := HD.out; omega)
        · have hd : decide ((B : Int) < (n : Int)) = false := decide_eq_false (by omega); have hd2 : decide (B < n) = false := decide_eq_false hBn; go_wp2; go_end0; refine ⟨rfl, HC1.out, M, HR2.out, ?_, HS2.out⟩; rcases HBs.out.rest (by have := HNM.out; omega) with ⟨_, h⟩ | ⟨S, T, hRe, hSl, hTl, _, _⟩
          · exact h
          · have := HNM.out; rw [hRe, List.length_append] at this; omega
set_option maxRecDepth 100000 in
theorem SortP (w : World) (hG : G w) (g : Nat) (hg : 3 ≤ g) (pre post : List Value) (l : List Int) (hR : Reg w g pre post l) (n c off : Nat) (hn : n = l.length) (hn5 : n ≤ 1000000000000000) (hoff : off = pre.length) :
    Calls Tryd.prog 109 #[.slice (some ⟨g, off, none⟩) n c, .func (.func 110) #[] #[]] w (SrtPost w g pre post l) := by
  have HCall := Aside0.mk (StbP w hG g hg pre post l hR n c off hn hn5 hoff); clear hG hR hn hoff; go_enter Tryd.func109, Tryd.ntmps109; go_wp2_with (first | (go_at_call 123; go_must (refine HCall.out.mono ?_; rintro e w2 ⟨rfl, p1, X, p2, p3, p4⟩; have HC1 := Aside0.mk p1; have HR1 := Aside0.mk p2; have HX := Aside0.mk (And.intro p3 p4); clear p1 p2 p3 p4))); go_end0; exact ⟨rfl, HC1.out, X, HR1.out, HX.out.1, HX.out.2⟩
end Go.Proofs.YthffpkdadffinaaDoor.Nw
namespace Go.Proofs.YthffpkdadffinaaDoor.Ng
set_option linter.unusedVariables false
set_option linter.unusedSimpArgs false
open Go.RowKit YthffpkdadffinaaDoorW.PrintWords Hp Va Na Nb Nc Nd Nr Ns Nw
theorem nums_app (k : IntKind) (a b : List Int) : nums k (a ++ b) = nums k a ++ nums k b := by simp [nums]
theorem nums_len (k : IntKind) (a : List Int) : (nums k a).length = a.length := by simp [nums]
theorem Reg.mid {w : World} {g : Nat} {pre post : List Value} {P S Q : List Int} (h : Reg w g pre post (P ++ S ++ Q)) : Reg w g (pre ++ nums .i32 P) (nums .i32 Q ++ post) S := by
  unfold Reg at *
  rw [h, nums_app, nums_app]; simp only [List.append_assoc]
theorem Reg.out {w : World} {g : Nat} {pre post : List Value} {P S Q : List Int} (h : Reg w g (pre ++ nums .i32 P) (nums .i32 Q ++ post) S) : Reg w g pre post (P ++ S ++ Q) := by
  unfold Reg at *
  rw [h, nums_app, nums_app]; simp only [List.append_assoc]
theorem ordL_nil : ordL [] = [] := rfl
theorem run_step {l D R S : List Int} (k : Nat) (hl : ordL l = D ++ ordL R) (hk : ∀ x ∈ R.take k, cls x ≠ 0) (hS : Srt S) (hSw : Sw (R.take k) S) :
    (R.drop k = [] → ordL l = D ++ S ++ ordL []) ∧ (∀ z t, R.drop k = z :: t → cls z = 0 → ordL l = (D ++ S ++ [z]) ++ ordL t) := by
  have h1 : ordL (R.take k) = S := ordL_run hk hS hSw; refine ⟨fun h => ?_, fun z t h hz => ?_⟩
  · rw [hl, ordL_nil, List.append_nil, ← h1, ← List.take_append_drop k R, h, List.append_nil, List.take_take, Nat.min_self]
  · have h2 : ordL R = ordL (R.take k) ++ z :: ordL t := by
      rw [← ordL_starter _ _ hz, ← h, List.take_append_drop]
    rw [hl, h2, h1]; simp
set_option maxRecDepth 100000 in
set_option maxHeartbeats 4000000 in
theorem OrdP (w : World) (hG : G w) (g : Nat) (hg : 3 ≤ g) (post : List Value) (l : List Int) (hR : Reg w g [] post l) (n c : Nat) (hn : n = l.length) (hn5 : n ≤ 1000000000000000) (hcn : n ≤ c) :
    Calls Tryd.prog 92 #[.slice (some ⟨g, 0, none⟩) n c] w fun e w' => e = .returned (.slice (some ⟨g, 0, none⟩) n c) ∧ Chg (fun b => b = g) w w' ∧ Reg w' g [] post (ordL l) := by
  have HG := Aside0.mk hG; have HR := Aside0.mk hR; have HN := Aside0.mk hn; clear hG hR hn; go_enter Tryd.func92, Tryd.ntmps92; go_wp2; go_loopw [3] (fun fv wr => ∃ (f : Nat) (D R : List Int), fv = .int .i64 f ∧ f ≤ n + 1 ∧ Aside0 (f = D.length ∨ (R = [] ∧ D.length ≤ f)) ∧ Aside0 (n = D.length + R.length) ∧ Aside0 (ordL l = D ++ ordL R) ∧ Aside0 (Reg wr g [] post (D ++ R)) ∧ Aside0 (Chg (fun b => b = g) w wr)) (fun fv _ => n + 1 - (intOf fv).toNat)
  case atStart => exact ⟨0, [], l, rfl, Nat.zero_le _, ⟨.inl rfl⟩, ⟨by rw [HN.out]; simp⟩, ⟨by simp⟩, HR, ⟨Chg.refl _ _⟩⟩
  case round =>
    obtain ⟨f, D, R, rfl, hfn, HFd, HNl, HO, HRr, HC⟩ := hrel; by_cases hlt : f < n
    · have hd : decide ((f : Int) < (n : Int)) = true := decide_eq_true (by omega); have hd2 : decide (f < n) = true := decide_eq_true hlt
      have HDl : Aside0 (f = D.length) := ⟨by
        rcases HFd.out with h | ⟨h1, h2⟩
        · exact h
        · have := HNl.out; rw [h1] at this; simp at this
          omega⟩
      clear HFd; go_wp2; go_loopw [4] (fun tv wr => ∃ (t : Nat), tv = .int .i64 t ∧ f ≤ t ∧ t ≤ n ∧ Aside0 (∀ x ∈ R.take (t - f), cls x ≠ 0) ∧ Aside0 (Reg wr g [] post (D ++ R)) ∧ Aside0 (Chg (fun b => b = g) w wr)) (fun tv _ => n - (intOf tv).toNat)
      case atStart => exact ⟨f, rfl, Nat.le_refl _, by omega, ⟨by rw [Nat.sub_self]; simp⟩, HRr, HC⟩
      case round =>
        clear HRr HC; obtain ⟨t, rfl, hft, htn, HK, HR2, HC2⟩ := hrel; by_cases htl : t < n
        · have hq : decide ((t : Int) < (n : Int)) = true := decide_eq_true (by omega); have hq2 : decide (t < n) = true := decide_eq_true htl; (have hj : (t : Int) < (n : Int) := by omega); obtain ⟨x, hx1, hx2, hx3, -⟩ := split_at (S := R) (t := t - f) (by have := HNl.out; have := HDl.out; omega); have c1 := HR2.out; rw [hx1, show D ++ (R.take (t - f) ++ x :: R.drop (t - f + 1)) = (D ++ R.take (t - f)) ++ x :: R.drop (t - f + 1) by simp] at c1; have c1 := Reg.one c1 (off := 0) rfl (p := t) (by have := HDl.out; have := HNl.out; simp only [List.length_append, List.length_take]; omega); rw [Nat.zero_add] at c1; have HX1 := Aside0.mk hx2; have HX2 := Aside0.mk hx3; clear hx1 hx2 hx3; by_cases hc : cls x = 0
          · (have hc2 : (cls x != 0) = false := by rw [hc]; rfl); (have hc3 : (cls x == 0) = true := by rw [hc]; rfl); have HCx := Aside0.mk hc; have HCl := Aside0.mk (ClassP wr (G_chg HG.out HC2.out (fun k hk e => by omega)) x); clear hc; go_upto_region 6 with (first | (go_at_call 55; go_must (refine HCl.out.mono ?_; rintro e w2 ⟨rfl, p1⟩; have HC3 := Aside0.mk (HC2.out.then_below p1); have HR3 := Aside0.mk (HR2.out.below p1); clear p1 c1 HC2 HR2))); have HC2 := HC3; have HR2 := HR3; clear HC3 HR3; have HCall := Aside0.mk (SortP _ (G_chg HG.out HC2.out (fun k hk e => by omega)) g hg (nums .i32 D) (nums .i32 (R.drop (t - f)) ++ post) (R.take (t - f)) (Reg.mid (pre := []) (by have := HR2.out; rw [List.append_assoc, List.take_append_drop]; exact this)) (t - f) (c - f) f (by have := HNl.out; have := HDl.out; rw [List.length_take]; omega) (by omega) (by rw [nums_len]; exact HDl.out)); (have i1 : ((t : Int) - (f : Int)) = ((t - f : Nat) : Int) := by omega); go_wp2_with (first | (go_at_call 109; go_must (refine HCall.out.mono ?_; rintro e w3 ⟨rfl, p1, X, p2, p3, p4⟩; have HC3 := Aside0.mk (HC2.out.trans p1 (fun _ _ h => h)); have HR3 := Aside0.mk (Reg.out (pre := []) p2); have HX := Aside0.mk (And.intro p3 p4); clear p1 p2 p3 p4 HC2 HR2))); go_roundw
            case rel =>
              have h1 := HX2.out; have := HNl.out; have := HDl.out; (have hxl : X.length = t - f := by rw [← HX.out.2.length, List.length_take]; omega); exact ⟨t + 1, D ++ X ++ [x], R.drop (t - f + 1), by go_num, by omega, ⟨.inl (by simp only [List.length_append, List.length_singleton]; omega)⟩, ⟨by simp only [List.length_append, List.length_singleton, List.length_drop]; omega⟩, ⟨(run_step (t - f) HO.out HK.out HX.out.1 HX.out.2).2 x _ HX1.out HCx.out⟩, ⟨by have := HR3.out; rw [HX1.out] at this; simp only [List.append_assoc, List.singleton_append] at this ⊢; exact this⟩, HC3⟩
            case measure => simp [intOf] <;> omega
          · (have hc2 : (cls x != 0) = true := by simpa using hc); (have hc3 : (cls x == 0) = false := by simpa using hc); have HCx := Aside0.mk hc; have HCl := Aside0.mk (ClassP wr (G_chg HG.out HC2.out (fun k hk e => by omega)) x); clear hc; go_wp2_with (first | (go_at_call 55; go_must (refine HCl.out.mono ?_; rintro e w2 ⟨rfl, p1⟩; have HC3 := Aside0.mk (HC2.out.then_below p1); have HR3 := Aside0.mk (HR2.out.below p1); clear p1 c1 HC2 HR2))); go_roundw
            case rel => exact ⟨t + 1, by go_num, by omega, by omega, ⟨by rw [show t + 1 - f = t - f + 1 by omega, HX2.out]; intro y hy; rcases List.mem_append.1 hy with hy | hy; (· exact HK.out y hy); (· rw [List.mem_singleton.1 hy]; exact HCx.out)⟩, HR3, HC3⟩
            case measure => simp [intOf] <;> omega
        · have hq : decide ((t : Int) < (n : Int)) = false := decide_eq_false (by omega); have hq2 : decide (t < n) = false := decide_eq_false htl; (have htn2 : t = n := by omega); have HT := Aside0.mk htn2; clear htn2; go_upto_region 6 with (fail); have HCall := Aside0.mk (SortP _ (G_chg HG.out HC2.out (fun k hk e => by omega)) g hg (nums .i32 D) (nums .i32 (R.drop (t - f)) ++ post) (R.take (t - f)) (Reg.mid (pre := []) (by have := HR2.out; rw [List.append_assoc, List.take_append_drop]; exact this)) (t - f) (c - f) f (by have := HNl.out; have := HDl.out; rw [List.length_take]; omega) (by omega) (by rw [nums_len]; exact HDl.out)); (have i1 : ((t : Int) - (f : Int)) = ((t - f : Nat) : Int) := by omega); go_wp2_with (first | (go_at_call 109; go_must (refine HCall.out.mono ?_; rintro e w3 ⟨rfl, p1, X, p2, p3, p4⟩; have HC3 := Aside0.mk (HC2.out.trans p1 (fun _ _ h => h)); have HR3 := Aside0.mk (Reg.out (pre := []) p2); have HX := Aside0.mk (And.intro p3 p4); clear p1 p2 p3 p4 HC2 HR2))); go_roundw
          case rel =>
            have := HNl.out; have := HDl.out; have := HT.out; have hdr : R.drop (t - f) = [] := List.drop_eq_nil_of_le (by omega); (have hxl : X.length = t - f := by rw [← HX.out.2.length, List.length_take]; omega); exact ⟨t + 1, D ++ X, [], by go_num, by omega, ⟨.inr ⟨rfl, by simp only [List.length_append]; omega⟩⟩, ⟨by simp only [List.length_append, List.length_nil]; omega⟩, ⟨(run_step (t - f) HO.out HK.out HX.out.1 HX.out.2).1 hdr⟩, ⟨by have := HR3.out; rw [hdr] at this; exact this⟩, HC3⟩
          case measure => simp [intOf] <;> omega
    · have hd : decide ((f : Int) < (n : Int)) = false := decide_eq_false (by omega); have hd2 : decide (f < n) = false := decide_eq_false hlt; go_wp2; go_ret; refine ⟨rfl, HC.out, ?_⟩
      have hr : R = [] := by
        rcases HFd.out with h | ⟨h1, h2⟩
        · have := HNl.out; exact List.eq_nil_of_length_eq_zero (by omega)
        · exact h1
      have h1 := HO.out; have h2 := HRr.out; rw [hr] at h1 h2; rw [h1]; exact h2
set_option maxRecDepth 100000 in
theorem OrdN (w : World) : Calls Tryd.prog 92 #[.slice none 0 0] w fun e w' => e = .returned (.slice none 0 0) ∧ Chg (fun _ => False) w w' := by
  go_enter Tryd.func92, Tryd.ntmps92; go_wp2; go_loopw [3] (fun fv wr => fv = .int .i64 0 ∧ Aside0 (Chg (fun _ => False) w wr)) (fun fv _ => 0)
  case atStart => exact ⟨rfl, ⟨Chg.refl _ _⟩⟩
  case round =>
    obtain ⟨rfl, HC⟩ := hrel; go_wp2; go_ret; exact ⟨rfl, HC.out⟩
end Go.Proofs.YthffpkdadffinaaDoor.Ng
namespace Go.Proofs.YthffpkdadffinaaDoor.X
set_option linter.unusedVariables false
set_option linter.unusedSimpArgs false
open Go.RowKit YthffpkdadffinaaDoorW.PrintWords Hp Na Nb Ng
def norm_ordered.f (a0 : List Int) : Option (List Int) := if a0.length ≤ 1000000000000000 then some (ordL a0) else none
theorem norm_ordered.calls (P0_ : Nat → Prop) (u9000_ : Value) (l0 : List Int) (r : List Int) (w0 w : World) (hB : Below w0.heap.size w0 w) (ho0 : Kd.R (Kd.int .i32) 21 w w0.heap.size P0_ u9000_ l0) (h : norm_ordered.f l0 = some r) (hG0 : Va.G w0) :
    Calls Tryd.prog 92 #[u9000_] w fun e w' => ∃ v0_ : Value, e = .returned v0_ ∧ Kd.R (Kd.int .i32) 21 w' w0.heap.size (fun k_ => (P0_ k_ ∨ w.heap.size ≤ k_)) v0_ r ∧ Below w0.heap.size w0 w' ∧ Kept w w' (fun k_ => P0_ k_) := by
  unfold norm_ordered.f at h; split at h
  case isFalse => exact absurd h (by simp)
  case isTrue hl =>
    have h := Option.some.inj h; have hG : Va.G w := hG0.below hB; have hok := ho0.1; rcases Reg.of_row (n := 0) (c := 0) ho0 with ⟨rfl, n, rfl, rfl⟩ | ⟨g, cap, post, rfl, h1, h2, h3, h4, h5⟩
    · refine (OrdN w).mono ?_; rintro e w' ⟨rfl, p1⟩; rw [← h]; exact ⟨_, rfl, Kd.R_mono (R_chg ho0 p1 (fun _ _ h => h)) (fun k hk => .inl hk), below_then hB hB.size (p1.below (B := w.heap.size) (fun k hk => ⟨hk, id⟩)), (p1.mono (fun _ _ h => h.elim)).kept⟩
    · have hg : 3 ≤ g := Nat.le_trans (G_size hG0) h4; have hgP : P0_ g := hok g rfl; refine (OrdP w hG g hg post l0 h5 l0.length cap rfl hl h1).mono ?_; rintro e w' ⟨rfl, p1, p2⟩; rw [← h]; have hlen := ordL_len l0; refine ⟨_, rfl, ?_, p1.below_of hB (fun k hk => by rw [hk]; exact h4), (p1.mono (fun k _ hk => by rw [hk]; exact hgP)).kept⟩; have := Reg.to_row (ok := fun k_ => (P0_ k_ ∨ w.heap.size ≤ k_)) p2 h4 (.inl hgP) h2 (by rw [hlen]; exact h3); rw [hlen] at this; exact this
end Go.Proofs.YthffpkdadffinaaDoor.X
