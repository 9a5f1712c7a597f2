/-
  Several texts of this claim in one: what its law's proof uses.
-/
import Derived.Test.YthffpkdadffinaaDoorMWT4
import Derived.Test.YthffpkdadffinaaDoorMWT3
import Derived.Laws.RangeString
import Derived.Deep.RegionHeld3
import Derived.Test.YthffpkdadffinaaDoorMWT1
import Derived.WalkSpells
import Derived.WalkLawsBesides
import Derived.Test.YthffpkdadffinaaDoorMWT2
import Derived.Test.YthffpkdadffinaaDoorMWT0
namespace Go.Proofs.YthffpkdadffinaaDoor.Nw
set_option linter.unusedVariables false
set_option linter.unusedSimpArgs false
open Go.RowKit YthffpkdadffinaaDoorW.PrintWords Hp Va Na Nb Nc Nd Nr Ns Nt
theorem MrgP (g : Nat) (hg : 3 ≤ g) (pre post : List Value) (n c off : Nat) (hn5 : n ≤ 1000000000000000) (hoff : off = pre.length) : ∀ L, Merges off n c g pre post L
  | 0 => fun w A S T C a m b hG hS hT h1 h2 h3 => by omega
  | L + 1 => fun w A S T C a m b hG hS hT h1 h2 h3 hR hn ha hm hb => by
    match S, h1 with
    | [x], _ =>
      exact MrgL w hG g hg pre post A T C x c hT h2 hR n hn hn5 off hoff a m b ha (by simpa using hm) hb
    | x :: y :: S', _ =>
      match T, h2 with
      | [z], _ =>
        exact MrgR w hG g hg pre post A (x :: y :: S') C z c hS (by simp) hR n hn hn5 off hoff a m b ha hm (by simpa using hb)
      | z :: u :: T', _ =>
        (have h1 : 1 < (x :: y :: S').length := by simp); (have h2 : 1 < (z :: u :: T').length := by simp); by_cases hc : (a + b) / 2 < m
        · exact MrgG g hg pre post n c off L hn5 hoff (MrgP g hg pre post n c off hn5 hoff L) w hG A _ _ C hS hT h1 h2 h3 hR hn a m b ha hm hb _ rfl _ _ (.inl ⟨hc, rfl, rfl⟩)
        · exact MrgG g hg pre post n c off L hn5 hoff (MrgP g hg pre post n c off hn5 hoff L) w hG A _ _ C hS hT h1 h2 h3 hR hn a m b ha hm hb _ rfl _ _ (.inr ⟨by omega, rfl, rfl⟩)
def Full (B : Nat) (A : List Int) : Prop := ∃ cs : List (List Int), A = cs.flatten ∧ ∀ c ∈ cs, c.length = B ∧ Srt c
def Bs (B : Nat) (R : List Int) : Prop := ∃ (cs : List (List Int)) (t : List Int), R = cs.flatten ++ t ∧ (∀ c ∈ cs, c.length = B ∧ Srt c) ∧ t.length < B ∧ Srt t
theorem Full.nil (B : Nat) : Full B [] := ⟨[], rfl, fun _ h => by cases h⟩
theorem Full.snoc {B : Nat} {A c : List Int} (h : Full B A) (hc : c.length = B) (hs : Srt c) : Full B (A ++ c) := by
  obtain ⟨cs, rfl, h⟩ := h; refine ⟨cs ++ [c], by simp, fun d hd => ?_⟩; rcases List.mem_append.1 hd with hd | hd
  · exact h d hd
  · rw [List.mem_singleton.1 hd]; exact ⟨hc, hs⟩
theorem Full.bs {B : Nat} {A t : List Int} (h : Full B A) (hc : t.length < B) (hs : Srt t) : Bs B (A ++ t) := by
  obtain ⟨cs, rfl, h⟩ := h; exact ⟨cs, t, rfl, h, hc, hs⟩
theorem Bs.two {B : Nat} {R : List Int} (h : Bs B R) (hl : 2 * B ≤ R.length) : ∃ S T R', R = S ++ T ++ R' ∧ S.length = B ∧ T.length = B ∧ Srt S ∧ Srt T ∧ Bs B R' := by
  obtain ⟨cs, t, rfl, h, h1, h2⟩ := h
  match cs, h, hl with
  | [], _, hl => simp only [List.flatten_nil, List.nil_append] at hl; omega
  | [c], h, hl =>
    have := (h c (by simp)).1; simp only [List.flatten_cons, List.flatten_nil, List.append_nil, List.length_append] at hl; omega
  | c :: d :: cs, h, _ =>
    exact ⟨c, d, cs.flatten ++ t, by simp, (h c (by simp)).1, (h d (by simp)).1, (h c (by simp)).2, (h d (by simp)).2, cs, t, rfl, fun e he => h e (by simp [he]), h1, h2⟩
theorem Bs.rest {B : Nat} {R : List Int} (h : Bs B R) (hl : R.length < 2 * B) : (R.length ≤ B ∧ Srt R) ∨ ∃ S T, R = S ++ T ∧ S.length = B ∧ 0 < T.length ∧ Srt S ∧ Srt T := by
  obtain ⟨cs, t, rfl, h, h1, h2⟩ := h
  match cs, h, hl with
  | [], _, _ => exact .inl ⟨by simp only [List.flatten_nil, List.nil_append]; omega, by simpa using h2⟩
  | [c], h, _ =>
    have hc := h c (by simp); rcases Nat.eq_zero_or_pos t.length with ht | ht
    · rw [List.eq_nil_of_length_eq_zero ht]; exact .inl ⟨by simp [hc.1], by simpa using hc.2⟩
    · exact .inr ⟨c, t, by simp, hc.1, ht, hc.2, h2⟩
  | c :: d :: cs, h, hl =>
    have := (h c (by simp)).1; have := (h d (by simp)).1; simp only [List.flatten_cons, List.length_append] at hl; omega
def SrtPost (w : World) (g : Nat) (pre post : List Value) (l : List Int) (e : Ending) (w' : World) : Prop :=
  e = .returned (.tuple #[]) ∧ Chg (fun b => b = g) w w' ∧ ∃ S, Reg w' g pre post S ∧ Srt S ∧ Sw l S
set_option maxRecDepth 100000 in
set_option maxHeartbeats 8000000 in
theorem StbP (w : World) (hG : G w) (g : Nat) (hg : 3 ≤ g) (pre post : List Value) (l : List Int) (hR : Reg w g pre post l) (n c off : Nat) (hn : n = l.length) (hn5 : n ≤ 1000000000000000) (hoff : off = pre.length) :
    Calls Tryd.prog 123 #[.slice (some ⟨g, off, none⟩) n c, .int .i64 (n : Int), .func (.func 110) #[] #[]] w (SrtPost w g pre post l) := by
  have HG := Aside0.mk hG; have HR := Aside0.mk hR; have HF := Aside0.mk hoff; have HN := Aside0.mk hn; clear hG hR hn hoff; go_enter Tryd.func123, Tryd.ntmps123; go_wp2; go_loopw [7, 8] (fun av bv wr => ∃ (a b : Nat) (A R : List Int), av = .int .i64 a ∧ bv = .int .i64 b ∧ b = a + 20 ∧ a ≤ n ∧ Aside0 (a = A.length) ∧ Aside0 (Full 20 A) ∧ Aside0 (n = A.length + R.length) ∧ Aside0 (Reg wr g pre post (A ++ R)) ∧ Aside0 (Sw l (A ++ R)) ∧ Aside0 (Chg (fun b => b = g) w wr)) (fun av _ _ => n - (intOf av).toNat)
  case atStart => exact ⟨0, 20, [], l, rfl, rfl, rfl, Nat.zero_le _, ⟨rfl⟩, ⟨Full.nil _⟩, ⟨by rw [HN.out]; simp⟩, HR, ⟨Sw.refl _⟩, ⟨Chg.refl _ _⟩⟩
  case round =>
    obtain ⟨a, b, A, R, rfl, rfl, hb, han, HA, HFu, HNl, HRr, HSw, HC⟩ := hrel; have HB := Aside0.mk hb; clear hb; by_cases hlt : b ≤ n
    · have hd : decide ((b : Int) ≤ (n : Int)) = true := decide_eq_true (by omega); have hd2 : decide (b ≤ n) = true := decide_eq_true hlt; have HCall := Aside0.mk (InsP wr (G_chg HG.out HC.out (fun k hk e => by omega)) g hg pre post A (R.take 20) (R.drop 20) c (by have := HRr.out; rw [List.append_assoc, List.take_append_drop]; exact this) n (by rw [HNl.out]; have := HB.out; simp only [List.length_append, List.length_take, List.length_drop]; omega) hn5 off HF.out a b HA.out (by have := HNl.out; have := HA.out; have := HB.out; simp only [List.length_take]; omega)); go_wp2_with (first | (go_at_call 126; go_must (refine HCall.out.mono ?_; rintro e w2 ⟨rfl, p1, X, p2, p3, p4⟩; have HC1 := Aside0.mk (HC.out.trans p1 (fun _ _ h => h)); have HR1 := Aside0.mk p2; have HX := Aside0.mk (And.intro p3 p4); clear p1 p2 p3 p4 HC HRr))); go_roundw
      case rel =>
        have := HNl.out; have := HA.out; have := HB.out; (have hxl : X.length = 20 := by rw [← HX.out.2.length, List.length_take]; omega); exact ⟨b, b + 20, A ++ X, R.drop 20, rfl, by go_num, rfl, hlt, ⟨by rw [List.length_append]; omega⟩, ⟨HFu.out.snoc hxl HX.out.1⟩, ⟨by simp only [List.length_append, List.length_drop]; omega⟩, HR1, ⟨HSw.out.trans (by have h := ((Sw.refl A).append HX.out.2).append (Sw.refl (R.drop 20)); rw [List.append_assoc A (R.take 20), List.take_append_drop] at h; exact h)⟩, HC1⟩
      case measure => have := HB.out; simp [intOf] <;> omega
    · have hd : decide ((b : Int) ≤ (n : Int)) = false := decide_eq_false (by omega); have hd2 : decide (b ≤ n) = false := decide_eq_false hlt; have HCall := Aside0.mk (InsP wr (G_chg HG.out HC.out (fun k hk e => by omega)) g hg pre post A R [] c (by have := HRr.out; rw [List.append_nil]; exact this) n (by rw [HNl.out]; simp only [List.length_append, List.length_nil]; omega) hn5 off HF.out a n HA.out HNl.out); go_wp2_with (first | (go_at_call 126; go_must (refine HCall.out.mono ?_; rintro e w2 ⟨rfl, p1, X, p2, p3, p4⟩; have HC1 := Aside0.mk (HC.out.trans p1 (fun _ _ h => h)); have HR1 := Aside0.mk p2; have HX := Aside0.mk (And.intro p3 p4); clear p1 p2 p3 p4 HC HRr))); have HBs : Aside0 (Bs 20 (A ++ X)) := ⟨HFu.out.bs (by have := HX.out.2.length; have := HNl.out; have := HA.out; have := HB.out; omega) HX.out.1⟩; have HR2 : Aside0 (Reg w2 g pre post (A ++ X)) := ⟨by have := HR1.out; rw [List.append_nil] at this; exact this⟩; have HS2 : Aside0 (Sw l (A ++ X)) := ⟨HSw.out.trans ((Sw.refl A).append HX.out.2)⟩; obtain ⟨L, hL⟩ : ∃ L, L = A ++ X := ⟨_, rfl⟩; rw [← hL] at HBs HR2 HS2; clear hL HR1 HX HSw HNl HFu HA HB HCall hd hd2 hlt; go_loopw [6] (fun Bv wr => ∃ (B : Nat) (L : List Int), Bv = .int .i64 B ∧ 20 ≤ B ∧ B ≤ 2 * n + 20 ∧ Aside0 (Bs B L) ∧ Aside0 (Reg wr g pre post L) ∧ Aside0 (Sw l L) ∧ Aside0 (Chg (fun b => b = g) w wr)) (fun Bv _ => n - (intOf Bv).toNat)
      case atStart => exact ⟨20, L, rfl, Nat.le_refl _, by omega, HBs, HR2, HS2, HC1⟩
      case round =>
        clear HBs HR2 HS2 HC1; obtain ⟨B, M, rfl, hB1, hB2, HBs, HR2, HS2, HC1⟩ := hrel; have HNM := Aside0.mk (show n = M.length by rw [HN.out]; exact HS2.out.length); by_cases hBn : B < n
        · have hd : decide ((B : Int) < (n : Int)) = true := decide_eq_true (by omega); have hd2 : decide (B < n) = true := decide_eq_true hBn; obtain ⟨D, hD⟩ : ∃ D, D = 2 * B := ⟨_, rfl⟩; (have eD : (2 : Int) * (B : Int) = (D : Int) := by omega); have HD := Aside0.mk hD; (have hDn : D ≤ 2 * n := by omega); clear hD; go_wp2; go_loopw [7, 8] (fun av bv wr => ∃ (a b : Nat) (A R : List Int), av = .int .i64 a ∧ bv = .int .i64 b ∧ b = a + D ∧ a ≤ n ∧ Aside0 (a = A.length) ∧ Aside0 (Full D A) ∧ Aside0 (Bs B R) ∧ Aside0 (n = A.length + R.length) ∧ Aside0 (Reg wr g pre post (A ++ R)) ∧ Aside0 (Sw l (A ++ R)) ∧ Aside0 (Chg (fun b => b = g) w wr)) (fun av _ _ => n - (intOf av).toNat)
          case atStart => exact ⟨0, D, [], M, rfl, rfl, by omega, Nat.zero_le _, ⟨rfl⟩, ⟨Full.nil _⟩, HBs, ⟨by rw [HNM.out]; simp⟩, HR2, HS2, HC1⟩
          case round =>
            clear HBs HR2 HS2 HC1 HNM; obtain ⟨a, b, A, R, rfl, rfl, hb, han, HA, HFu, HBs, HNl, HRr, HSw, HC⟩ := hrel; obtain ⟨m, hm⟩ : ∃ m, m = a + B := ⟨_, rfl⟩; (have em : (a : Int) + (B : Int) = (m : Int) := by omega); have HB := Aside0.mk hb; clear hb; by_cases hlt : b ≤ n
            · have hd : decide ((b : Int) ≤ (n : Int)) = true := decide_eq_true (by omega); have hd2 : decide (b ≤ n) = true := decide_eq_true hlt; obtain ⟨S, T, R', hRe, hSl, hTl, hSs, hTs, hRb⟩ := HBs.out.two (by have := HNl.out; have := HA.out; have := HD.out; have := HB.out; omega); have HCall := Aside0.mk (MrgP g hg pre post n c off hn5 HF.out _ wr A S T R' a m b (G_chg HG.out HC.out (fun k hk e => by omega)) hSs hTs (by omega) (by omega) (Nat.le_refl _) (by have := HRr.out; rw [hRe] at this; simp only [List.append_assoc] at this ⊢; exact this) (by rw [HNl.out, hRe]; simp only [List.length_append]; omega) HA.out (by omega) (by have := HD.out; have := HB.out; omega)); have HRe := Aside0.mk (And.intro hRe (And.intro hSl (And.intro hTl hRb))); clear hRe hSl hTl hSs hTs hRb hm; go_wp2_with (first | (go_at_call 127; go_must (refine HCall.out.mono ?_; rintro e w2 ⟨rfl, p1, X, p2, p3, p4⟩; have HC1 := Aside0.mk (HC.out.trans p1 (fun _ _ h => h)); have HR1 := Aside0.mk p2; have HX := Aside0.mk (And.intro p3 p4); clear p1 p2 p3 p4 HC HRr))); go_roundw
              case rel =>
                have := HNl.out; have := HA.out; obtain ⟨hRe, hSl, hTl, hRb⟩ := HRe.out; (have hxl : X.length = D := by rw [← HX.out.2.length, List.length_append, HD.out]; omega); (have hrl : R.length = S.length + T.length + R'.length := by rw [hRe]; simp only [List.length_append]); have := HD.out; have := HB.out; exact ⟨b, b + D, A ++ X, R', rfl, by go_num, rfl, hlt, ⟨by rw [List.length_append]; omega⟩, ⟨HFu.out.snoc hxl HX.out.1⟩, ⟨hRb⟩, ⟨by simp only [List.length_append]; omega⟩, HR1, ⟨HSw.out.trans (by have h := ((Sw.refl A).append HX.out.2).append (Sw.refl R'); rw [hRe]; simp only [List.append_assoc] at h ⊢; exact h)⟩, HC1⟩
              case measure => have := HB.out; have := HD.out; simp [intOf] <;> omega
            · have hd : decide ((b : Int) ≤ (n : Int)) = false := decide_eq_false (by omega); have hd2 : decide (b ≤ n) = false := decide_eq_false hlt; rcases HBs.out.rest (by have := HNl.out; have := HA.out; have := HD.out; have := HB.out; omega) with ⟨hRl, hRs⟩ | ⟨S, T, hRe, hSl, hTl, hSs, hTs⟩
              · have hq : decide ((m : Int) < (n : Int)) = false := decide_eq_false (by have := HNl.out; have := HA.out; omega); have hq2 : decide (m < n) = false := decide_eq_false (by have := HNl.out; have := HA.out; omega); have HX := Aside0.mk (And.intro hRl hRs); clear hRl hRs hm; go_wp2; go_roundw
                case rel => exact ⟨D, A ++ R, by rw [Int.mul_comm, eD], by have := HD.out; omega, by omega, ⟨HFu.out.bs (by have := HX.out.1; have := HD.out; omega) HX.out.2⟩, HRr, HSw, HC⟩
                case measure => simp [intOf] <;> (have := HD.out; omega)
              · (have hrl : R.length = S.length + T.length := by rw [hRe]; simp only [List.length_append]); have hq : decide ((m : Int) < (n : Int)) = true := decide_eq_true (by have := HNl.out; have := HA.out; omega); have hq2 : decide (m < n) = true := decide_eq_true (by have := HNl.out; have := HA.out; omega); have HCall := Aside0.mk (MrgP g hg pre post n c off hn5 HF.out _ wr A S T [] a m n (G_chg HG.out HC.out (fun k hk e => by omega)) hSs hTs (by omega) hTl (Nat.le_refl _) (by have := HRr.out; rw [hRe] at this; simp only [List.append_assoc, List.append_nil] at this ⊢; exact this) (by rw [HNl.out, hRe]; simp only [List.length_append, List.length_nil]; omega) HA.out (by omega) (by have := HNl.out; have := HA.out; omega)); have HRe := Aside0.mk (And.intro hRe hrl); clear hRe hSl hTl hSs hTs hm hrl; go_wp2_with (first | (go_at_call 127; go_must (refine HCall.out.mono ?_; rintro e w2 ⟨rfl, p1, X, p2, p3, p4⟩; have HC1 := Aside0.mk (HC.out.trans p1 (fun _ _ h => h)); have HR1 := Aside0.mk p2; have HX := Aside0.mk (And.intro p3 p4); clear p1 p2 p3 p4 HC HRr))); go_roundw
                case rel =>
                  have := HNl.out; have := HA.out; obtain ⟨hRe, hrl⟩ := HRe.out; (have hxl : X.length = R.length := by rw [← HX.out.2.length, hRe]); exact ⟨D, A ++ X, by rw [Int.mul_comm, eD], by have := HD.out; omega, by omega, ⟨HFu.out.bs (by have := HD.out; have := HB.out; omega) HX.out.1⟩, ⟨by have := HR1.out; rw [List.append_nil] at this; exact this⟩, ⟨HSw.out.trans (by rw [hRe]; exact (Sw.refl A).append HX.out.2)⟩, HC1⟩
                case measure => simp [intOf] <;> (have := HD.out; omega)
        · have hd : decide ((B : Int) < (n : Int)) = false := decide_eq_false (by omega); have hd2 : decide (B < n) = false := decide_eq_false hBn; go_wp2; go_end0; refine ⟨rfl, HC1.out, M, HR2.out, ?_, HS2.out⟩; rcases HBs.out.rest (by have := HNM.out; omega) with ⟨_, h⟩ | ⟨S, T, hRe, hSl, hTl, _, _⟩
          · exact h
          · have := HNM.out; rw [hRe, List.length_append] at this; omega
set_option maxRecDepth 100000 in
theorem SortP (w : World) (hG : G w) (g : Nat) (hg : 3 ≤ g) (pre post : List Value) (l : List Int) (hR : Reg w g pre post l) (n c off : Nat) (hn : n = l.length) (hn5 : n ≤ 1000000000000000) (hoff : off = pre.length) :
    Calls Tryd.prog 109 #[.slice (some ⟨g, off, none⟩) n c, .func (.func 110) #[] #[]] w (SrtPost w g pre post l) := by
  have HCall := Aside0.mk (StbP w hG g hg pre post l hR n c off hn hn5 hoff); clear hG hR hn hoff; go_enter Tryd.func109, Tryd.ntmps109; go_wp2_with (first | (go_at_call 123; go_must (refine HCall.out.mono ?_; rintro e w2 ⟨rfl, p1, X, p2, p3, p4⟩; have HC1 := Aside0.mk p1; have HR1 := Aside0.mk p2; have HX := Aside0.mk (And.intro p3 p4); clear p1 p2 p3 p4))); go_end0; exact ⟨rfl, HC1.out, X, HR1.out, HX.out.1, HX.out.2⟩
end Go.Proofs.YthffpkdadffinaaDoor.Nw
namespace Go.Proofs.YthffpkdadffinaaDoor.Ng
set_option linter.unusedVariables false
set_option linter.unusedSimpArgs false
open Go.RowKit YthffpkdadffinaaDoorW.PrintWords Hp Va Na Nb Nc Nd Nr Ns Nw
theorem nums_app (k : IntKind) (a b : List Int) : nums k (a ++ b) = nums k a ++ nums k b := by simp [nums]
theorem nums_len (k : IntKind) (a : List Int) : (nums k a).length = a.length := by simp [nums]
theorem Reg.mid {w : World} {g : Nat} {pre post : List Value} {P S Q : List Int} (h : Reg w g pre post (P ++ S ++ Q)) : Reg w g (pre ++ nums .i32 P) (nums .i32 Q ++ post) S := by
  unfold Reg at *
  rw [h, nums_app, nums_app]; simp only [List.append_assoc]
theorem Reg.out {w : World} {g : Nat} {pre post : List Value} {P S Q : List Int} (h : Reg w g (pre ++ nums .i32 P) (nums .i32 Q ++ post) S) : Reg w g pre post (P ++ S ++ Q) := by
  unfold Reg at *
  rw [h, nums_app, nums_app]; simp only [List.append_assoc]
theorem ordL_nil : ordL [] = [] := rfl
theorem run_step {l D R S : List Int} (k : Nat) (hl : ordL l = D ++ ordL R) (hk : ∀ x ∈ R.take k, cls x ≠ 0) (hS : Srt S) (hSw : Sw (R.take k) S) :
    (R.drop k = [] → ordL l = D ++ S ++ ordL []) ∧ (∀ z t, R.drop k = z :: t → cls z = 0 → ordL l = (D ++ S ++ [z]) ++ ordL t) := by
  have h1 : ordL (R.take k) = S := ordL_run hk hS hSw; refine ⟨fun h => ?_, fun z t h hz => ?_⟩
  · rw [hl, ordL_nil, List.append_nil, ← h1, ← List.take_append_drop k R, h, List.append_nil, List.take_take, Nat.min_self]
  · have h2 : ordL R = ordL (R.take k) ++ z :: ordL t := by
      rw [← ordL_starter _ _ hz, ← h, List.take_append_drop]
    rw [hl, h2, h1]; simp
set_option maxRecDepth 100000 in
set_option maxHeartbeats 4000000 in
theorem OrdP (w : World) (hG : G w) (g : Nat) (hg : 3 ≤ g) (post : List Value) (l : List Int) (hR : Reg w g [] post l) (n c : Nat) (hn : n = l.length) (hn5 : n ≤ 1000000000000000) (hcn : n ≤ c) :
    Calls Tryd.prog 92 #[.slice (some ⟨g, 0, none⟩) n c] w fun e w' => e = .returned (.slice (some ⟨g, 0, none⟩) n c) ∧ Chg (fun b => b = g) w w' ∧ Reg w' g [] post (ordL l) := by
  have HG := Aside0.mk hG; have HR := Aside0.mk hR; have HN := Aside0.mk hn; clear hG hR hn; go_enter Tryd.func92, Tryd.ntmps92; go_wp2; go_loopw [3] (fun fv wr => ∃ (f : Nat) (D R : List Int), fv = .int .i64 f ∧ f ≤ n + 1 ∧ Aside0 (f = D.length ∨ (R = [] ∧ D.length ≤ f)) ∧ Aside0 (n = D.length + R.length) ∧ Aside0 (ordL l = D ++ ordL R) ∧ Aside0 (Reg wr g [] post (D ++ R)) ∧ Aside0 (Chg (fun b => b = g) w wr)) (fun fv _ => n + 1 - (intOf fv).toNat)
  case atStart => exact ⟨0, [], l, rfl, Nat.zero_le _, ⟨.inl rfl⟩, ⟨by rw [HN.out]; simp⟩, ⟨by simp⟩, HR, ⟨Chg.refl _ _⟩⟩
  case round =>
    obtain ⟨f, D, R, rfl, hfn, HFd, HNl, HO, HRr, HC⟩ := hrel; by_cases hlt : f < n
    · have hd : decide ((f : Int) < (n : Int)) = true := decide_eq_true (by omega); have hd2 : decide (f < n) = true := decide_eq_true hlt
      have HDl : Aside0 (f = D.length) := ⟨by
        rcases HFd.out with h | ⟨h1, h2⟩
        · exact h
        · have := HNl.out; rw [h1] at this; simp at this
          omega⟩
      clear HFd; go_wp2; go_loopw [4] (fun tv wr => ∃ (t : Nat), tv = .int .i64 t ∧ f ≤ t ∧ t ≤ n ∧ Aside0 (∀ x ∈ R.take (t - f), cls x ≠ 0) ∧ Aside0 (Reg wr g [] post (D ++ R)) ∧ Aside0 (Chg (fun b => b = g) w wr)) (fun tv _ => n - (intOf tv).toNat)
      case atStart => exact ⟨f, rfl, Nat.le_refl _, by omega, ⟨by rw [Nat.sub_self]; simp⟩, HRr, HC⟩
      case round =>
        clear HRr HC; obtain ⟨t, rfl, hft, htn, HK, HR2, HC2⟩ := hrel; by_cases htl : t < n
        · have hq : decide ((t : Int) < (n : Int)) = true := decide_eq_true (by omega); have hq2 : decide (t < n) = true := decide_eq_true htl; (have hj : (t : Int) < (n : Int) := by omega); obtain ⟨x, hx1, hx2, hx3, -⟩ := split_at (S := R) (t := t - f) (by have := HNl.out; have := HDl.out; omega); have c1 := HR2.out; rw [hx1, show D ++ (R.take (t - f) ++ x :: R.drop (t - f + 1)) = (D ++ R.take (t - f)) ++ x :: R.drop (t - f + 1) by simp] at c1; have c1 := Reg.one c1 (off := 0) rfl (p := t) (by have := HDl.out; have := HNl.out; simp only [List.length_append, List.length_take]; omega); rw [Nat.zero_add] at c1; have HX1 := Aside0.mk hx2; have HX2 := Aside0.mk hx3; clear hx1 hx2 hx3; by_cases hc : cls x = 0
          · (have hc2 : (cls x != 0) = false := by rw [hc]; rfl); (have hc3 : (cls x == 0) = true := by rw [hc]; rfl); have HCx := Aside0.mk hc; have HCl := Aside0.mk (ClassP wr (G_chg HG.out HC2.out (fun k hk e => by omega)) x); clear hc; go_upto_region 6 with (first | (go_at_call 55; go_must (refine HCl.out.mono ?_; rintro e w2 ⟨rfl, p1⟩; have HC3 := Aside0.mk (HC2.out.then_below p1); have HR3 := Aside0.mk (HR2.out.below p1); clear p1 c1 HC2 HR2))); have HC2 := HC3; have HR2 := HR3; clear HC3 HR3; have HCall := Aside0.mk (SortP _ (G_chg HG.out HC2.out (fun k hk e => by omega)) g hg (nums .i32 D) (nums .i32 (R.drop (t - f)) ++ post) (R.take (t - f)) (Reg.mid (pre := []) (by have := HR2.out; rw [List.append_assoc, List.take_append_drop]; exact this)) (t - f) (c - f) f (by have := HNl.out; have := HDl.out; rw [List.length_take]; omega) (by omega) (by rw [nums_len]; exact HDl.out)); (have i1 : ((t : Int) - (f : Int)) = ((t - f : Nat) : Int) := by omega); go_wp2_with (first | (go_at_call 109; go_must (refine HCall.out.mono ?_; rintro e w3 ⟨rfl, p1, X, p2, p3, p4⟩; have HC3 := Aside0.mk (HC2.out.trans p1 (fun _ _ h => h)); have HR3 := Aside0.mk (Reg.out (pre := []) p2); have HX := Aside0.mk (And.intro p3 p4); clear p1 p2 p3 p4 HC2 HR2))); go_roundw
            case rel =>
              have h1 := HX2.out; have := HNl.out; have := HDl.out; (have hxl : X.length = t - f := by rw [← HX.out.2.length, List.length_take]; omega); exact ⟨t + 1, D ++ X ++ [x], R.drop (t - f + 1), by go_num, by omega, ⟨.inl (by simp only [List.length_append, List.length_singleton]; omega)⟩, ⟨by simp only [List.length_append, List.length_singleton, List.length_drop]; omega⟩, ⟨(run_step (t - f) HO.out HK.out HX.out.1 HX.out.2).2 x _ HX1.out HCx.out⟩, ⟨by have := HR3.out; rw [HX1.out] at this; simp only [List.append_assoc, List.singleton_append] at this ⊢; exact this⟩, HC3⟩
            case measure => simp [intOf] <;> omega
          · (have hc2 : (cls x != 0) = true := by simpa using hc); (have hc3 : (cls x == 0) = false := by simpa using hc); have HCx := Aside0.mk hc; have HCl := Aside0.mk (ClassP wr (G_chg HG.out HC2.out (fun k hk e => by omega)) x); clear hc; go_wp2_with (first | (go_at_call 55; go_must (refine HCl.out.mono ?_; rintro e w2 ⟨rfl, p1⟩; have HC3 := Aside0.mk (HC2.out.then_below p1); have HR3 := Aside0.mk (HR2.out.below p1); clear p1 c1 HC2 HR2))); go_roundw
            case rel => exact ⟨t + 1, by go_num, by omega, by omega, ⟨by rw [show t + 1 - f = t - f + 1 by omega, HX2.out]; intro y hy; rcases List.mem_append.1 hy with hy | hy; (· exact HK.out y hy); (· rw [List.mem_singleton.1 hy]; exact HCx.out)⟩, HR3, HC3⟩
            case measure => simp [intOf] <;> omega
        · have hq : decide ((t : Int) < (n : Int)) = false := decide_eq_false (by omega); have hq2 : decide (t < n) = false := decide_eq_false htl; (have htn2 : t = n := by omega); have HT := Aside0.mk htn2; clear htn2; go_upto_region 6 with (fail); have HCall := Aside0.mk (SortP _ (G_chg HG.out HC2.out (fun k hk e => by omega)) g hg (nums .i32 D) (nums .i32 (R.drop (t - f)) ++ post) (R.take (t - f)) (Reg.mid (pre := []) (by have := HR2.out; rw [List.append_assoc, List.take_append_drop]; exact this)) (t - f) (c - f) f (by have := HNl.out; have := HDl.out; rw [List.length_take]; omega) (by omega) (by rw [nums_len]; exact HDl.out)); (have i1 : ((t : Int) - (f : Int)) = ((t - f : Nat) : Int) := by omega); go_wp2_with (first | (go_at_call 109; go_must (refine HCall.out.mono ?_; rintro e w3 ⟨rfl, p1, X, p2, p3, p4⟩; have HC3 := Aside0.mk (HC2.out.trans p1 (fun _ _ h => h)); have HR3 := Aside0.mk (Reg.out (pre := []) p2); have HX := Aside0.mk (And.intro p3 p4); clear p1 p2 p3 p4 HC2 HR2))); go_roundw
          case rel =>
            have := HNl.out; have := HDl.out; have := HT.out; have hdr : R.drop (t - f) = [] := List.drop_eq_nil_of_le (by omega); (have hxl : X.length = t - f := by rw [← HX.out.2.length, List.length_take]; omega); exact ⟨t + 1, D ++ X, [], by go_num, by omega, ⟨.inr ⟨rfl, by simp only [List.length_append]; omega⟩⟩, ⟨by simp only [List.length_append, List.length_nil]; omega⟩, ⟨(run_step (t - f) HO.out HK.out HX.out.1 HX.out.2).1 hdr⟩, ⟨by have := HR3.out; rw [hdr] at this; exact this⟩, HC3⟩
          case measure => simp [intOf] <;> omega
    · have hd : decide ((f : Int) < (n : Int)) = false := decide_eq_false (by omega); have hd2 : decide (f < n) = false := decide_eq_false hlt; go_wp2; go_ret; refine ⟨rfl, HC.out, ?_⟩
      have hr : R = [] := by
        rcases HFd.out with h | ⟨h1, h2⟩
        · have := HNl.out; exact List.eq_nil_of_length_eq_zero (by omega)
        · exact h1
      have h1 := HO.out; have h2 := HRr.out; rw [hr] at h1 h2; rw [h1]; exact h2
set_option maxRecDepth 100000 in
theorem OrdN (w : World) : Calls Tryd.prog 92 #[.slice none 0 0] w fun e w' => e = .returned (.slice none 0 0) ∧ Chg (fun _ => False) w w' := by
  go_enter Tryd.func92, Tryd.ntmps92; go_wp2; go_loopw [3] (fun fv wr => fv = .int .i64 0 ∧ Aside0 (Chg (fun _ => False) w wr)) (fun fv _ => 0)
  case atStart => exact ⟨rfl, ⟨Chg.refl _ _⟩⟩
  case round =>
    obtain ⟨rfl, HC⟩ := hrel; go_wp2; go_ret; exact ⟨rfl, HC.out⟩
end Go.Proofs.YthffpkdadffinaaDoor.Ng
namespace Go.Proofs.YthffpkdadffinaaDoor.X
set_option linter.unusedVariables false
set_option linter.unusedSimpArgs false
open Go.RowKit YthffpkdadffinaaDoorW.PrintWords Hp Na Nb Ng
def norm_ordered.f (a0 : List Int) : Option (List Int) := if a0.length ≤ 1000000000000000 then some (ordL a0) else none
theorem norm_ordered.calls (P0_ : Nat → Prop) (u9000_ : Value) (l0 : List Int) (r : List Int) (w0 w : World) (hB : Below w0.heap.size w0 w) (ho0 : Kd.R (Kd.int .i32) 21 w w0.heap.size P0_ u9000_ l0) (h : norm_ordered.f l0 = some r) (hG0 : Va.G w0) :
    Calls Tryd.prog 92 #[u9000_] w fun e w' => ∃ v0_ : Value, e = .returned v0_ ∧ Kd.R (Kd.int .i32) 21 w' w0.heap.size (fun k_ => (P0_ k_ ∨ w.heap.size ≤ k_)) v0_ r ∧ Below w0.heap.size w0 w' ∧ Kept w w' (fun k_ => P0_ k_) := by
  unfold norm_ordered.f at h; split at h
  case isFalse => exact absurd h (by simp)
  case isTrue hl =>
    have h := Option.some.inj h; have hG : Va.G w := hG0.below hB; have hok := ho0.1; rcases Reg.of_row (n := 0) (c := 0) ho0 with ⟨rfl, n, rfl, rfl⟩ | ⟨g, cap, post, rfl, h1, h2, h3, h4, h5⟩
    · refine (OrdN w).mono ?_; rintro e w' ⟨rfl, p1⟩; rw [← h]; exact ⟨_, rfl, Kd.R_mono (R_chg ho0 p1 (fun _ _ h => h)) (fun k hk => .inl hk), below_then hB hB.size (p1.below (B := w.heap.size) (fun k hk => ⟨hk, id⟩)), (p1.mono (fun _ _ h => h.elim)).kept⟩
    · have hg : 3 ≤ g := Nat.le_trans (G_size hG0) h4; have hgP : P0_ g := hok g rfl; refine (OrdP w hG g hg post l0 h5 l0.length cap rfl hl h1).mono ?_; rintro e w' ⟨rfl, p1, p2⟩; rw [← h]; have hlen := ordL_len l0; refine ⟨_, rfl, ?_, p1.below_of hB (fun k hk => by rw [hk]; exact h4), (p1.mono (fun k _ hk => by rw [hk]; exact hgP)).kept⟩; have := Reg.to_row (ok := fun k_ => (P0_ k_ ∨ w.heap.size ≤ k_)) p2 h4 (.inl hgP) h2 (by rw [hlen]; exact h3); rw [hlen] at this; exact this
end Go.Proofs.YthffpkdadffinaaDoor.X
namespace Go.Proofs.YthffpkdadffinaaDoor.Vc
set_option linter.unusedVariables false
set_option linter.unusedSimpArgs false
open Go.RowKit YthffpkdadffinaaDoorW.PrintWords Hp Va
abbrev nmS : ByteArray := ⟨#[103, 97, 99, 116, 109, 98, 112, 100, 114, 113, 118, 101, 111]⟩
def nmL : List Int := [103, 97, 99, 116, 109, 98, 112, 100, 114, 113, 118, 101, 111]
def nmF (c : Int) : List Int → List Int → Int
  | a :: l, m :: t => if a = c then m else nmF c l t
  | _, _ => 0
def nmd (c : Int) : Int := nmF c nmL mksT
theorem nm_ascii : ∀ p : Fin 13, (nmS[p.1]'(p.2)).toNat < 128 ∧ (((nmS[p.1]'(p.2)).toNat : Nat) : Int) = nmL.getD p.1 0 := by decide
theorem nm_next (w : World) (pos : Nat) (h : pos < 13) (ty : TypeId) : (Instr.next (.pointer (some ⟨w.heap.size, 0, none⟩)) true ty).run Tryd.prog (w.iter nmS pos) = .ok (.tuple #[.bool true, .int .i64 pos, .int .i32 (nmL.getD pos 0)]) (w.iter nmS (pos + 1)) := by
  have h1 := nm_ascii ⟨pos, h⟩; have := run_next_ascii (P := Tryd.prog) w nmS pos ty h h1.1; rw [h1.2] at this; exact this
theorem iter_below (w : World) (pos : Nat) : Below w.heap.size w (w.iter nmS pos) := below_alloc (Below.refl _ _) _
theorem iter_pos (w : World) (pos : Nat) : (w.iter nmS pos).iterPos w.heap.size = pos := by simp [World.iterPos, World.iter_heap]
set_option maxRecDepth 100000 in
set_option maxHeartbeats 1000000 in
theorem NamedP (w : World) (hG : G w) (c : Int) (hc : 0 ≤ c ∧ c < 256) : Calls Tryd.prog 83 #[.int .u8 c] w fun e w' => e = .returned (.int .i32 (nmd c)) ∧ Below w.heap.size w w' := by
  have HG := Aside0.mk hG; clear hG; (have hcv : wrap32 c = c := by unfold wrap32; omega); go_enter Tryd.func83, Tryd.ntmps83; go_wp2; go_loopw [6] (fun _ wr => ∃ pos : Nat, pos ≤ 13 ∧ wr = w.iter nmS pos ∧ Aside0 (nmd c = nmF c (nmL.drop pos) (mksT.drop pos))) (fun _ wr => 13 - wr.iterPos w.heap.size)
  case atStart => exact ⟨0, Nat.zero_le _, rfl, ⟨rfl⟩⟩
  case round =>
    obtain ⟨pos, hp, rfl, HE⟩ := hrel; by_cases hlt : pos < 13
    · have hnx := nm_next w pos hlt
      have hcell0 : w.cell? ⟨2, 0 + pos, none⟩ = some (.int .i32 (mksT.getD pos 0)) := HG.out.2.2 pos _ (by
        have : pos < mksT.length := hlt
        simp [nums, List.getElem?_eq_getElem this])
      have hcell := ((iter_below w (pos + 1)).cell (World.block_lt_of_cell? w _ hcell0)).trans hcell0; rw [Nat.zero_add] at hcell; have he := HE.out
      have hd1 : nmL.drop pos = nmL.getD pos 0 :: nmL.drop (pos + 1) := by
        have h1 : pos < nmL.length := hlt; rw [List.drop_eq_getElem_cons h1]; simp [List.getElem?_eq_getElem h1]
      have hd2 : mksT.drop pos = mksT.getD pos 0 :: mksT.drop (pos + 1) := by
        have h1 : pos < mksT.length := hlt; rw [List.drop_eq_getElem_cons h1]; simp [List.getElem?_eq_getElem h1]
      rw [hd1, hd2, nmF] at he; obtain ⟨a, ha⟩ : ∃ a, a = nmL.getD pos 0 := ⟨_, rfl⟩; obtain ⟨m, hm⟩ : ∃ m, m = mksT.getD pos 0 := ⟨_, rfl⟩; rw [← ha] at hnx he; rw [← hm] at hcell he; have NB := Aside0.mk (iter_below w (pos + 1)); have MU := Aside0.mk (iter_pos w pos); have MU1 := Aside0.mk (iter_pos w (pos + 1)); clear hcell0 hd1 hd2 ha hm; by_cases hac : a = c
      · rw [if_pos hac] at he; (have hac2 : (a == c) = true := by simpa using hac); have HE1 := Aside0.mk he; clear he hac; go_wp2; go_ret; exact ⟨by rw [HE1.out]; rfl, NB.out⟩
      · rw [if_neg hac] at he; (have hac2 : (a == c) = false := by simpa using hac); have HE1 := Aside0.mk he; clear he hac; go_wp2; go_roundw
        case rel => exact ⟨pos + 1, by omega, rfl, HE1⟩
        case measure => rw [MU.out, MU1.out]; omega
    · (obtain rfl : pos = 13 := by omega); (have hnx := fun ty => run_next_end (P := Tryd.prog) w nmS 13 ty (by decide)); have HE1 := Aside0.mk (show nmd c = 0 from HE.out); have NB := Aside0.mk (iter_below w 13); go_wp2; go_ret; exact ⟨by rw [HE1.out]; rfl, NB.out⟩
abbrev latL : ByteArray := ⟨#[65, 65, 65, 65, 65, 65, 46, 67, 69, 69, 69, 69, 73, 73, 73, 73, 46, 78, 79, 79, 79, 79, 79, 46, 46, 85, 85, 85, 85, 89, 46, 46, 97, 97, 97, 97, 97, 97, 46, 99, 101, 101, 101, 101, 105, 105, 105, 105, 46, 110, 111, 111, 111, 111, 111, 46, 46, 117, 117, 117, 117, 121, 46, 121]⟩
abbrev latM : ByteArray := ⟨#[103, 97, 99, 116, 100, 114, 46, 101, 103, 97, 99, 100, 103, 97, 99, 100, 46, 116, 103, 97, 99, 116, 100, 46, 46, 103, 97, 99, 100, 97, 46, 46, 103, 97, 99, 116, 100, 114, 46, 101, 103, 97, 99, 100, 103, 97, 99, 100, 46, 116, 103, 97, 99, 116, 100, 46, 46, 103, 97, 99, 100, 97, 46, 100]⟩
abbrev morL : ByteArray := ⟨#[65, 97, 65, 97, 65, 97, 67, 99, 67, 99, 67, 99, 67, 99, 68, 100, 46, 46, 69, 101, 69, 101, 69, 101, 69, 101, 69, 101, 71, 103, 71, 103, 71, 103, 71, 103, 72, 104, 46, 46, 73, 105, 73, 105, 73, 105, 73, 105, 73, 46, 46, 46, 74, 106, 75, 107, 46, 76, 108, 76, 108, 76, 108, 46, 46, 46, 46, 78, 110, 78, 110, 78, 110, 46, 46, 46, 79, 111, 79, 111, 79, 111, 46, 46, 82, 114, 82, 114, 82, 114, 83, 115, 83, 115, 83, 115, 83, 115, 84, 116, 84, 116, 46, 46, 85, 117, 85, 117, 85, 117, 85, 117, 85, 117, 85, 117, 87, 119, 89, 121, 89, 90, 122, 90, 122, 90, 122, 46]⟩
abbrev morM : ByteArray := ⟨#[109, 109, 98, 98, 111, 111, 97, 97, 99, 99, 112, 112, 118, 118, 118, 118, 46, 46, 109, 109, 98, 98, 112, 112, 111, 111, 118, 118, 99, 99, 98, 98, 112, 112, 101, 101, 99, 99, 46, 46, 116, 116, 109, 109, 98, 98, 111, 111, 112, 46, 46, 46, 99, 99, 101, 101, 46, 97, 97, 101, 101, 118, 118, 46, 46, 46, 46, 97, 97, 101, 101, 118, 118, 46, 46, 46, 109, 109, 98, 98, 113, 113, 46, 46, 97, 97, 101, 101, 118, 118, 97, 97, 99, 99, 101, 101, 118, 118, 101, 101, 118, 118, 46, 46, 116, 116, 109, 109, 98, 98, 114, 114, 113, 113, 111, 111, 99, 99, 99, 99, 100, 97, 97, 112, 112, 118, 118, 46]⟩
def byt (s : ByteArray) (i : Nat) : Int := ((s.data.toList.getD i 0).toNat : Int)
theorem byt_range (s : ByteArray) (i : Nat) : 0 ≤ byt s i ∧ byt s i < 256 := by
  unfold byt; have := UInt8.toNat_lt (s.data.toList.getD i 0); omega
def prsF (r : Int) : List (Int × Int × Int) → Int × Int × Int
  | [] => (0, 0, 0)
  | p :: t => if p.1 = r then (if p.2.2 = 0 then (p.2.1, 0, 1) else (p.2.1, p.2.2, 2)) else prsF r t
def ltr (L M : ByteArray) (i : Nat) : Int × Int × Int := if byt L i = 46 then (0, 0, 0) else (byt L i, nmd (byt M i), 2)
def pairU (r : Int) : Int × Int × Int :=
  if 44032 ≤ r ∧ r ≤ 55203 then (if (r - 44032) % 28 = 0 then (4352 + (r - 44032) / 588, 4449 + (r - 44032) % 588 / 28, 2) else (r - (r - 44032) % 28, 4519 + (r - 44032) % 28, 2))
  else if 256 ≤ r ∧ r < 384 then ltr morL morM (r - 256).toNat
  else if r < 192 ∨ 255 < r then prsF r prsT
  else ltr latL latM (r - 192).toNat
theorem idxS (s : ByteArray) (i : Nat) (h : i < s.size) (W : World) : (Instr.index 9 (.string s) (.int .i32 (i : Int))).run Tryd.prog W = .ok (.int .u8 (byt s i)) W := by
  rw [run_index_string W 9 s .i32 (i : Int) Tryd.underlying9, dif_pos ⟨by omega, by omega⟩]; congr 2; unfold byt; (have h1 : i < s.data.toList.length := by simpa using h); simp only [Int.toNat_natCast, List.getD_eq_getElem?_getD, List.getElem?_eq_getElem h1, Option.getD_some]
  rfl
theorem idxP (i : Nat) (hi : i < 31) : ∀ W : World, (Instr.index 111 (.agg (cells3 prsT).toArray) (.int .i64 (i : Int))).run Tryd.prog W = .ok (.agg #[.int .i32 (prsT.getD i (0, 0, 0)).1, .int .i32 (prsT.getD i (0, 0, 0)).2.1, .int .i32 (prsT.getD i (0, 0, 0)).2.2]) W := by
  intro W
  match i, hi with
  | 0, _ => exact (show _ = _ by kernel_rfl)
  | 1, _ => exact (show _ = _ by kernel_rfl)
  | 2, _ => exact (show _ = _ by kernel_rfl)
  | 3, _ => exact (show _ = _ by kernel_rfl)
  | 4, _ => exact (show _ = _ by kernel_rfl)
  | 5, _ => exact (show _ = _ by kernel_rfl)
  | 6, _ => exact (show _ = _ by kernel_rfl)
  | 7, _ => exact (show _ = _ by kernel_rfl)
  | 8, _ => exact (show _ = _ by kernel_rfl)
  | 9, _ => exact (show _ = _ by kernel_rfl)
  | 10, _ => exact (show _ = _ by kernel_rfl)
  | 11, _ => exact (show _ = _ by kernel_rfl)
  | 12, _ => exact (show _ = _ by kernel_rfl)
  | 13, _ => exact (show _ = _ by kernel_rfl)
  | 14, _ => exact (show _ = _ by kernel_rfl)
  | 15, _ => exact (show _ = _ by kernel_rfl)
  | 16, _ => exact (show _ = _ by kernel_rfl)
  | 17, _ => exact (show _ = _ by kernel_rfl)
  | 18, _ => exact (show _ = _ by kernel_rfl)
  | 19, _ => exact (show _ = _ by kernel_rfl)
  | 20, _ => exact (show _ = _ by kernel_rfl)
  | 21, _ => exact (show _ = _ by kernel_rfl)
  | 22, _ => exact (show _ = _ by kernel_rfl)
  | 23, _ => exact (show _ = _ by kernel_rfl)
  | 24, _ => exact (show _ = _ by kernel_rfl)
  | 25, _ => exact (show _ = _ by kernel_rfl)
  | 26, _ => exact (show _ = _ by kernel_rfl)
  | 27, _ => exact (show _ = _ by kernel_rfl)
  | 28, _ => exact (show _ = _ by kernel_rfl)
  | 29, _ => exact (show _ = _ by kernel_rfl)
  | 30, _ => exact (show _ = _ by kernel_rfl)
  | n + 31, h => exact absurd h (by omega)
theorem infoP : (Tryd.prog.info? 111).map (·.size) = some (cells3 prsT).length := by kernel_rfl
def PairPost (w : World) (r : Int) (e : Ending) (w' : World) : Prop := e = .returned (.tuple #[.int .i32 (pairU r).1, .int .i32 (pairU r).2.1, .int .i64 (pairU r).2.2]) ∧ Below w.heap.size w w'
set_option maxRecDepth 100000 in
set_option maxHeartbeats 1000000 in
theorem PairSyl (w : World) (s : Nat) (hs : s ≤ 11171) : Calls Tryd.prog 53 #[.int .i32 (44032 + (s : Int))] w (PairPost w (44032 + (s : Int))) := by
  have d1 : decide ((44032 : Int) ≤ 44032 + (s : Int)) = true := decide_eq_true (by omega); have d2 : decide (44032 + (s : Int) ≤ 55203) = true := decide_eq_true (by omega); (have t1 : (s : Int).tmod 28 = ((s % 28 : Nat) : Int) := by rw [Int.tmod_eq_emod_of_nonneg (by omega)]; omega); (have t2 : (s : Int).tmod 588 = ((s % 588 : Nat) : Int) := by rw [Int.tmod_eq_emod_of_nonneg (by omega)]; omega); (have t3 : (s : Int).tdiv 588 = ((s / 588 : Nat) : Int) := by rw [Int.tdiv_eq_ediv_of_nonneg (by omega)]; omega); (have t4 : ((s % 588 : Nat) : Int).tdiv 28 = ((s % 588 / 28 : Nat) : Int) := by rw [Int.tdiv_eq_ediv_of_nonneg (by omega)]; omega); (have e1 : 44032 + (s : Int) - 44032 = (s : Int) := by omega); (have b1 : s / 588 ≤ 18 := by omega); (have b2 : s % 588 / 28 ≤ 20 := by omega); (have b3 : s % 28 ≤ 27 := by omega); obtain ⟨x1, hx1⟩ : ∃ x, x = s % 28 := ⟨_, rfl⟩; obtain ⟨x2, hx2⟩ : ∃ x, x = s % 588 := ⟨_, rfl⟩; obtain ⟨x3, hx3⟩ : ∃ x, x = s / 588 := ⟨_, rfl⟩; rw [← hx1] at t1 b3; rw [← hx2] at t2 t4 b2; rw [← hx3] at t3 b1; obtain ⟨x4, hx4⟩ : ∃ x, x = x2 / 28 := ⟨_, rfl⟩; rw [← hx4] at t4 b2
  have hP : pairU (44032 + (s : Int)) = if x1 = 0 then (4352 + (x3 : Int), 4449 + (x4 : Int), 2) else (44032 + (s : Int) - (x1 : Int), 4519 + (x1 : Int), 2) := by
    unfold pairU; rw [if_pos ⟨by omega, by omega⟩, e1]; by_cases h : x1 = 0
    · rw [if_pos (by omega), if_pos h]; congr 1
      · omega
      · congr 1; omega
    · rw [if_neg (by omega), if_neg h]; congr 1
      · omega
      · congr 1; omega
  have HP := Aside0.mk hP; clear hP hx1 hx2 hx3 hx4; by_cases h : x1 = 0
  · subst h; go_enter Tryd.func53, Tryd.ntmps53; go_wp2; go_ret3; exact ⟨by rw [HP.out]; rfl, Below.refl _ _⟩
  · (have h0 : ((x1 : Int) == 0) = false := by simp; omega); go_enter Tryd.func53, Tryd.ntmps53; go_wp2; go_ret3; exact ⟨by rw [HP.out, if_neg h]; rfl, Below.refl _ _⟩
set_option maxRecDepth 100000 in
set_option maxHeartbeats 1000000 in
theorem PairLat (w : World) (hG : G w) (i : Nat) (hi : i < 64) : Calls Tryd.prog 53 #[.int .i32 (192 + (i : Int))] w (PairPost w (192 + (i : Int))) := by
  have HG := Aside0.mk hG; clear hG; have d1 : decide ((44032 : Int) ≤ 192 + (i : Int)) = false := decide_eq_false (by omega); have d2 : decide ((256 : Int) ≤ 192 + (i : Int)) = false := decide_eq_false (by omega); have d3 : decide (192 + (i : Int) < 192) = false := decide_eq_false (by omega); have d4 : decide ((255 : Int) < 192 + (i : Int)) = false := decide_eq_false (by omega); have e1 : 192 + (i : Int) - 192 = (i : Int) := by omega
  have hP : pairU (192 + (i : Int)) = ltr latL latM i := by
    unfold pairU; rw [if_neg (by omega), if_neg (by omega), if_neg (by omega), e1, Int.toNat_natCast]
  have hix := idxS latL i hi; have hiy := idxS latM i hi; have hmr := byt_range latM i; have har := byt_range latL i; obtain ⟨a, ha⟩ : ∃ a, a = byt latL i := ⟨_, rfl⟩; obtain ⟨m, hm⟩ : ∃ m, m = byt latM i := ⟨_, rfl⟩; rw [← ha] at hix har; rw [← hm] at hiy hmr; (have hwa : IntKind.i32.wrap a = a := by rw [IntKind.wrap_i32]; omega); unfold latL at hix; unfold latM at hiy; by_cases h : a = 46
  · (have h0 : (a == 46) = true := by simpa using h); have HP := Aside0.mk (show pairU (192 + (i : Int)) = (0, 0, 0) by rw [hP]; unfold ltr; rw [if_pos (by rw [← ha]; exact h)]); clear hP ha h hm; go_enter Tryd.func53, Tryd.ntmps53; go_wp2; go_ret3; exact ⟨by rw [HP.out]; rfl, Below.refl _ _⟩
  · (have h0 : (a == 46) = false := by simpa using h); have HP := Aside0.mk (show pairU (192 + (i : Int)) = (a, nmd m, 2) by rw [hP]; unfold ltr; rw [if_neg (by rw [← ha]; exact h), ← ha, ← hm]); clear hP ha h hm; go_enter Tryd.func53, Tryd.ntmps53; go_upto_region 21 with (fail); refine wp_region_held_drew (S := fun W => Below w.heap.size w W) (by kernel_rfl) (((Drawn0.refl w).step 1).below) (fun hS => ?_); refine wpAnyH_take (i := 0) (oi := { dst := some 78, op := _, type := _, pos := _, after := _, guard := _ }) (v := .string latL) rfl (by kernel_rfl) (by kernel_rfl) (by kernel_rfl) (fun _ _ _ h => h) (Or.inl ⟨by rfl, fun W hW => ?_⟩) hS ?_
    · (go_simp)
    (try simp only [Act.put, List.setIfInBounds_toArray, List.set_cons_zero, List.set_cons_succ]); refine wpAnyH_take (i := 1) (oi := { dst := some 79, op := _, type := _, pos := _, after := _, guard := _ }) (v := .int .i32 (i : Int)) rfl (by kernel_rfl) (by kernel_rfl) (by kernel_rfl) (fun _ _ _ h => h) (Or.inl ⟨by rfl, fun W hW => ?_⟩) hS ?_
    · (go_simp)
    (try simp only [Act.put, List.setIfInBounds_toArray, List.set_cons_zero, List.set_cons_succ]); refine wpAnyH_take (i := 2) (oi := { dst := some 80, op := _, type := _, pos := _, after := _, guard := _ }) (v := .int .u8 a) rfl (by kernel_rfl) (by kernel_rfl) (by kernel_rfl) (fun _ _ _ h => h) (Or.inl ⟨by rfl, fun W hW => ?_⟩) hS ?_
    · (have h := hix W; go_simp)
    (try simp only [Act.put, List.setIfInBounds_toArray, List.set_cons_zero, List.set_cons_succ]); refine wpAnyH_take (i := 3) (oi := { dst := some 81, op := _, type := _, pos := _, after := _, guard := _ }) (v := .int .i32 a) rfl (by kernel_rfl) (by kernel_rfl) (by kernel_rfl) (fun _ _ _ h => h) (Or.inl ⟨by rfl, fun W hW => ?_⟩) hS ?_
    · (go_simp)
    (try simp only [Act.put, List.setIfInBounds_toArray, List.set_cons_zero, List.set_cons_succ]); refine wpAnyH_take (i := 4) (oi := { dst := some 82, op := _, type := _, pos := _, after := _, guard := _ }) (v := .string latM) rfl (by kernel_rfl) (by kernel_rfl) (by kernel_rfl) (fun _ _ _ h => h) (Or.inl ⟨by rfl, fun W hW => ?_⟩) hS ?_
    · (go_simp)
    (try simp only [Act.put, List.setIfInBounds_toArray, List.set_cons_zero, List.set_cons_succ]); refine wpAnyH_take (i := 5) (oi := { dst := some 83, op := _, type := _, pos := _, after := _, guard := _ }) (v := .int .i32 (i : Int)) rfl (by kernel_rfl) (by kernel_rfl) (by kernel_rfl) (fun _ _ _ h => h) (Or.inl ⟨by rfl, fun W hW => ?_⟩) hS ?_
    · (go_simp)
    (try simp only [Act.put, List.setIfInBounds_toArray, List.set_cons_zero, List.set_cons_succ]); refine wpAnyH_take (i := 6) (oi := { dst := some 84, op := _, type := _, pos := _, after := _, guard := _ }) (v := .int .u8 m) rfl (by kernel_rfl) (by kernel_rfl) (by kernel_rfl) (fun _ _ _ h => h) (Or.inl ⟨by rfl, fun W hW => ?_⟩) hS ?_
    · (have h := hiy W; go_simp)
    (try simp only [Act.put, List.setIfInBounds_toArray, List.set_cons_zero, List.set_cons_succ]); refine wpAnyH_ready (rs := [7]) (by kernel_rfl) (by simp) ?_; refine AllReadyH.cons (o := { dst := some 85, op := _, type := _, pos := _, after := _, guard := _ }) rfl (fun K hK => ?_) AllReadyH.nil; go_simp
    (go_at_call 83)
    refine (NamedP w.drew (HG.out.below hS) m hmr).mono ?_; rintro e w5 ⟨rfl, p1⟩; have hS2 := below_then hS hS.size p1; go_wp2_with fail; refine hK.out _ _ hS2 (fun hS3 => ?_); clear hK K hS p1 hS3; have hS := hS2; clear hS2; (try simp only [Act.put, List.setIfInBounds_toArray, List.set_cons_zero, List.set_cons_succ]); refine wpAnyH_take (i := 8) (oi := { dst := some 2, op := _, type := _, pos := _, after := _, guard := _ }) (v := .int .i32 a) rfl (by kernel_rfl) (by kernel_rfl) (by kernel_rfl) (fun _ _ _ h => h) (Or.inl ⟨by rfl, fun W hW => ?_⟩) hS ?_
    · (go_simp)
    (try simp only [Act.put, List.setIfInBounds_toArray, List.set_cons_zero, List.set_cons_succ]); refine wpAnyH_take (i := 9) (oi := { dst := some 3, op := _, type := _, pos := _, after := _, guard := _ }) (v := .int .i32 (nmd m)) rfl (by kernel_rfl) (by kernel_rfl) (by kernel_rfl) (fun _ _ _ h => h) (Or.inl ⟨by rfl, fun W hW => ?_⟩) hS ?_
    · (go_simp)
    (try simp only [Act.put, List.setIfInBounds_toArray, List.set_cons_zero, List.set_cons_succ]); refine wpAnyH_take (i := 10) (oi := { dst := some 4, op := _, type := _, pos := _, after := _, guard := _ }) (v := .int .i64 2) rfl (by kernel_rfl) (by kernel_rfl) (by kernel_rfl) (fun _ _ _ h => h) (Or.inl ⟨by rfl, fun W hW => ?_⟩) hS ?_
    · (go_simp)
    (try simp only [Act.put, List.setIfInBounds_toArray, List.set_cons_zero, List.set_cons_succ]); refine wpAnyH_done (by kernel_rfl) ?_ _; go_wp2; go_ret3; exact ⟨by rw [HP.out]; rfl, hS⟩
set_option maxRecDepth 100000 in
set_option maxHeartbeats 1000000 in
theorem PairMor (w : World) (hG : G w) (i : Nat) (hi : i < 128) : Calls Tryd.prog 53 #[.int .i32 (256 + (i : Int))] w (PairPost w (256 + (i : Int))) := by
  have HG := Aside0.mk hG; clear hG; have d1 : decide ((44032 : Int) ≤ 256 + (i : Int)) = false := decide_eq_false (by omega); have d2 : decide ((256 : Int) ≤ 256 + (i : Int)) = true := decide_eq_true (by omega); have d3 : decide (256 + (i : Int) < 384) = true := decide_eq_true (by omega); have e1 : 256 + (i : Int) - 256 = (i : Int) := by omega
  have hP : pairU (256 + (i : Int)) = ltr morL morM i := by
    unfold pairU; rw [if_neg (by omega), if_pos (by omega), e1, Int.toNat_natCast]
  have hix := idxS morL i hi; have hiy := idxS morM i hi; have hmr := byt_range morM i; have har := byt_range morL i; obtain ⟨a, ha⟩ : ∃ a, a = byt morL i := ⟨_, rfl⟩; obtain ⟨m, hm⟩ : ∃ m, m = byt morM i := ⟨_, rfl⟩; rw [← ha] at hix har; rw [← hm] at hiy hmr; (have hwa : IntKind.i32.wrap a = a := by rw [IntKind.wrap_i32]; omega); unfold morL at hix; unfold morM at hiy; by_cases h : a = 46
  · (have h0 : (a == 46) = true := by simpa using h); have HP := Aside0.mk (show pairU (256 + (i : Int)) = (0, 0, 0) by rw [hP]; unfold ltr; rw [if_pos (by rw [← ha]; exact h)]); clear hP ha h hm; go_enter Tryd.func53, Tryd.ntmps53; go_wp2; go_ret3; exact ⟨by rw [HP.out]; rfl, Below.refl _ _⟩
  · (have h0 : (a == 46) = false := by simpa using h); have HP := Aside0.mk (show pairU (256 + (i : Int)) = (a, nmd m, 2) by rw [hP]; unfold ltr; rw [if_neg (by rw [← ha]; exact h), ← ha, ← hm]); clear hP ha h hm; go_enter Tryd.func53, Tryd.ntmps53; go_upto_region 21 with (fail); refine wp_region_held_drew (S := fun W => Below w.heap.size w W) (by kernel_rfl) (((Drawn0.refl w).step 1).below) (fun hS => ?_); refine wpAnyH_take (i := 0) (oi := { dst := some 78, op := _, type := _, pos := _, after := _, guard := _ }) (v := .string morL) rfl (by kernel_rfl) (by kernel_rfl) (by kernel_rfl) (fun _ _ _ h => h) (Or.inl ⟨by rfl, fun W hW => ?_⟩) hS ?_
    · (go_simp)
    (try simp only [Act.put, List.setIfInBounds_toArray, List.set_cons_zero, List.set_cons_succ]); refine wpAnyH_take (i := 1) (oi := { dst := some 79, op := _, type := _, pos := _, after := _, guard := _ }) (v := .int .i32 (i : Int)) rfl (by kernel_rfl) (by kernel_rfl) (by kernel_rfl) (fun _ _ _ h => h) (Or.inl ⟨by rfl, fun W hW => ?_⟩) hS ?_
    · (go_simp)
    (try simp only [Act.put, List.setIfInBounds_toArray, List.set_cons_zero, List.set_cons_succ]); refine wpAnyH_take (i := 2) (oi := { dst := some 80, op := _, type := _, pos := _, after := _, guard := _ }) (v := .int .u8 a) rfl (by kernel_rfl) (by kernel_rfl) (by kernel_rfl) (fun _ _ _ h => h) (Or.inl ⟨by rfl, fun W hW => ?_⟩) hS ?_
    · (have h := hix W; go_simp)
    (try simp only [Act.put, List.setIfInBounds_toArray, List.set_cons_zero, List.set_cons_succ]); refine wpAnyH_take (i := 3) (oi := { dst := some 81, op := _, type := _, pos := _, after := _, guard := _ }) (v := .int .i32 a) rfl (by kernel_rfl) (by kernel_rfl) (by kernel_rfl) (fun _ _ _ h => h) (Or.inl ⟨by rfl, fun W hW => ?_⟩) hS ?_
    · (go_simp)
    (try simp only [Act.put, List.setIfInBounds_toArray, List.set_cons_zero, List.set_cons_succ]); refine wpAnyH_take (i := 4) (oi := { dst := some 82, op := _, type := _, pos := _, after := _, guard := _ }) (v := .string morM) rfl (by kernel_rfl) (by kernel_rfl) (by kernel_rfl) (fun _ _ _ h => h) (Or.inl ⟨by rfl, fun W hW => ?_⟩) hS ?_
    · (go_simp)
    (try simp only [Act.put, List.setIfInBounds_toArray, List.set_cons_zero, List.set_cons_succ]); refine wpAnyH_take (i := 5) (oi := { dst := some 83, op := _, type := _, pos := _, after := _, guard := _ }) (v := .int .i32 (i : Int)) rfl (by kernel_rfl) (by kernel_rfl) (by kernel_rfl) (fun _ _ _ h => h) (Or.inl ⟨by rfl, fun W hW => ?_⟩) hS ?_
    · (go_simp)
    (try simp only [Act.put, List.setIfInBounds_toArray, List.set_cons_zero, List.set_cons_succ]); refine wpAnyH_take (i := 6) (oi := { dst := some 84, op := _, type := _, pos := _, after := _, guard := _ }) (v := .int .u8 m) rfl (by kernel_rfl) (by kernel_rfl) (by kernel_rfl) (fun _ _ _ h => h) (Or.inl ⟨by rfl, fun W hW => ?_⟩) hS ?_
    · (have h := hiy W; go_simp)
    (try simp only [Act.put, List.setIfInBounds_toArray, List.set_cons_zero, List.set_cons_succ]); refine wpAnyH_ready (rs := [7]) (by kernel_rfl) (by simp) ?_; refine AllReadyH.cons (o := { dst := some 85, op := _, type := _, pos := _, after := _, guard := _ }) rfl (fun K hK => ?_) AllReadyH.nil; go_simp
    (go_at_call 83)
    refine (NamedP w.drew (HG.out.below hS) m hmr).mono ?_; rintro e w5 ⟨rfl, p1⟩; have hS2 := below_then hS hS.size p1; go_wp2_with fail; refine hK.out _ _ hS2 (fun hS3 => ?_); clear hK K hS p1 hS3; have hS := hS2; clear hS2; (try simp only [Act.put, List.setIfInBounds_toArray, List.set_cons_zero, List.set_cons_succ]); refine wpAnyH_take (i := 8) (oi := { dst := some 2, op := _, type := _, pos := _, after := _, guard := _ }) (v := .int .i32 a) rfl (by kernel_rfl) (by kernel_rfl) (by kernel_rfl) (fun _ _ _ h => h) (Or.inl ⟨by rfl, fun W hW => ?_⟩) hS ?_
    · (go_simp)
    (try simp only [Act.put, List.setIfInBounds_toArray, List.set_cons_zero, List.set_cons_succ]); refine wpAnyH_take (i := 9) (oi := { dst := some 3, op := _, type := _, pos := _, after := _, guard := _ }) (v := .int .i32 (nmd m)) rfl (by kernel_rfl) (by kernel_rfl) (by kernel_rfl) (fun _ _ _ h => h) (Or.inl ⟨by rfl, fun W hW => ?_⟩) hS ?_
    · (go_simp)
    (try simp only [Act.put, List.setIfInBounds_toArray, List.set_cons_zero, List.set_cons_succ]); refine wpAnyH_take (i := 10) (oi := { dst := some 4, op := _, type := _, pos := _, after := _, guard := _ }) (v := .int .i64 2) rfl (by kernel_rfl) (by kernel_rfl) (by kernel_rfl) (fun _ _ _ h => h) (Or.inl ⟨by rfl, fun W hW => ?_⟩) hS ?_
    · (go_simp)
    (try simp only [Act.put, List.setIfInBounds_toArray, List.set_cons_zero, List.set_cons_succ]); refine wpAnyH_done (by kernel_rfl) ?_ _; go_wp2; go_ret3; exact ⟨by rw [HP.out]; rfl, hS⟩
set_option maxRecDepth 100000 in
set_option maxHeartbeats 1000000 in
theorem PairTab (w : World) (hG : G w) (r : Int) (hr5 : -2147483648 ≤ r ∧ r ≤ 2147483647) (h1 : ¬ (44032 ≤ r ∧ r ≤ 55203)) (h2 : ¬ (256 ≤ r ∧ r < 384)) (h3 : r < 192 ∨ 255 < r) : Calls Tryd.prog 53 #[.int .i32 r] w (PairPost w r) := by
  (have hP : pairU r = prsF r prsT := by unfold pairU; rw [if_neg h1, if_neg h2, if_pos h3]); obtain ⟨tl, htl⟩ : ∃ tl, tl = cells3 prsT := ⟨_, rfl⟩; have HT := Aside0.mk (show w.rangeAt 0 0 tl by rw [htl]; exact hG.2.1); have HI := Aside0.mk (show (Tryd.prog.info? 111).map (·.size) = some tl.length by rw [htl]; exact infoP); have HX := Aside0.mk (show ∀ i : Nat, i < 31 → ∀ W : World, (Instr.index 111 (.agg tl.toArray) (.int .i64 (i : Int))).run Tryd.prog W = .ok (.agg #[.int .i32 (prsT.getD i (0, 0, 0)).1, .int .i32 (prsT.getD i (0, 0, 0)).2.1, .int .i32 (prsT.getD i (0, 0, 0)).2.2]) W by rw [htl]; exact idxP); have HP := Aside0.mk hP; clear hG htl hP; have hu43 := Tryd.underlying110; (have hcase : r < 192 ∨ (384 ≤ r ∧ r < 44032) ∨ 55203 < r := by omega); clear h1 h2 h3; rcases hcase with h1 | ⟨h1, h2⟩ | h1
  · have d1 : decide (44032 ≤ r) = false := decide_eq_false (by omega); have d2 : decide (256 ≤ r) = false := decide_eq_false (by omega); have d3 : decide (r < 192) = true := decide_eq_true (by omega); go_enter Tryd.func53, Tryd.ntmps53; go_wp2_with (refine wpList_load_mid rfl 111 (.global 0) rfl 0 0 rfl tl _ HT.out Tryd.underlying111 rfl HI.out ?_); go_loopw [57] (fun iv wr => ∃ i : Nat, i ≤ 31 ∧ iv = .int .i64 i ∧ Aside0 (pairU r = prsF r (prsT.drop i)) ∧ Aside0 (Below w.heap.size w wr)) (fun iv _ => 31 - (intOf iv).toNat)
    case atStart => exact ⟨0, Nat.zero_le _, rfl, ⟨HP.out⟩, ⟨Below.refl _ _⟩⟩
    case round =>
      obtain ⟨i, hi, rfl, HE, HB⟩ := hrel; by_cases hlt : i < 31
      · have hd : decide ((i : Int) < 31) = true := decide_eq_true (by omega); have hix := HX.out i hlt; have he := HE.out
        have hdr : prsT.drop i = prsT.getD i (0, 0, 0) :: prsT.drop (i + 1) := by
          have h1 : i < prsT.length := hlt; rw [List.drop_eq_getElem_cons h1, List.getD_eq_getElem?_getD, List.getElem?_eq_getElem h1]
          rfl
        rw [hdr, prsF] at he; obtain ⟨⟨a, b, c⟩, hp⟩ : ∃ p, p = prsT.getD i (0, 0, 0) := ⟨_, rfl⟩; rw [← hp] at hix he; simp only at hix he; clear hp hdr; have NB := Aside0.mk (show Below w.heap.size w (wr.alloc (.cells #[.int .i32 a, .int .i32 b, .int .i32 c] 110)) from below_then HB.out HB.out.size (below_alloc (Below.refl _ _) _)); by_cases ha : a = r
        · (have ha1 : (a == r) = true := by simpa using ha); rw [if_pos ha] at he; by_cases hc : c = 0
          · (have hc1 : (c == 0) = true := by simpa using hc); rw [if_pos hc] at he; have HE1 := Aside0.mk he; clear he ha hc; go_wp2; go_ret3; exact ⟨by rw [HE1.out]; rfl, NB.out⟩
          · (have hc1 : (c == 0) = false := by simpa using hc); rw [if_neg hc] at he; have HE1 := Aside0.mk he; clear he ha hc; go_wp2; go_quiet (fail); go_wp2; go_ret3; exact ⟨by rw [HE1.out]; rfl, below_then NB.out NB.out.size ((Drawn0.refl _).step nq).below⟩
        · (have ha1 : (a == r) = false := by simpa using ha); rw [if_neg ha] at he; have HE1 := Aside0.mk he; clear he ha; go_wp2; go_roundw
          case rel => exact ⟨i + 1, by omega, by go_num, HE1, NB⟩
          case measure => simp [intOf]; omega
      · have hd : decide ((i : Int) < 31) = false := decide_eq_false (by omega); (obtain rfl : i = 31 := by omega); have HE1 := Aside0.mk (show pairU r = (0, 0, 0) from HE.out); go_wp2; go_ret3; exact ⟨by rw [HE1.out]; rfl, HB.out⟩
  · have d1 : decide (44032 ≤ r) = false := decide_eq_false (by omega); have d2 : decide (256 ≤ r) = true := decide_eq_true (by omega); have d3 : decide (r < 384) = false := decide_eq_false (by omega); have d4 : decide (r < 192) = false := decide_eq_false (by omega); have d5 : decide (255 < r) = true := decide_eq_true (by omega); go_enter Tryd.func53, Tryd.ntmps53; go_wp2_with (refine wpList_load_mid rfl 111 (.global 0) rfl 0 0 rfl tl _ HT.out Tryd.underlying111 rfl HI.out ?_); go_loopw [57] (fun iv wr => ∃ i : Nat, i ≤ 31 ∧ iv = .int .i64 i ∧ Aside0 (pairU r = prsF r (prsT.drop i)) ∧ Aside0 (Below w.heap.size w wr)) (fun iv _ => 31 - (intOf iv).toNat)
    case atStart => exact ⟨0, Nat.zero_le _, rfl, ⟨HP.out⟩, ⟨Below.refl _ _⟩⟩
    case round =>
      obtain ⟨i, hi, rfl, HE, HB⟩ := hrel; by_cases hlt : i < 31
      · have hd : decide ((i : Int) < 31) = true := decide_eq_true (by omega); have hix := HX.out i hlt; have he := HE.out
        have hdr : prsT.drop i = prsT.getD i (0, 0, 0) :: prsT.drop (i + 1) := by
          have h1 : i < prsT.length := hlt; rw [List.drop_eq_getElem_cons h1, List.getD_eq_getElem?_getD, List.getElem?_eq_getElem h1]
          rfl
        rw [hdr, prsF] at he; obtain ⟨⟨a, b, c⟩, hp⟩ : ∃ p, p = prsT.getD i (0, 0, 0) := ⟨_, rfl⟩; rw [← hp] at hix he; simp only at hix he; clear hp hdr; have NB := Aside0.mk (show Below w.heap.size w (wr.alloc (.cells #[.int .i32 a, .int .i32 b, .int .i32 c] 110)) from below_then HB.out HB.out.size (below_alloc (Below.refl _ _) _)); by_cases ha : a = r
        · (have ha1 : (a == r) = true := by simpa using ha); rw [if_pos ha] at he; by_cases hc : c = 0
          · (have hc1 : (c == 0) = true := by simpa using hc); rw [if_pos hc] at he; have HE1 := Aside0.mk he; clear he ha hc; go_wp2; go_ret3; exact ⟨by rw [HE1.out]; rfl, NB.out⟩
          · (have hc1 : (c == 0) = false := by simpa using hc); rw [if_neg hc] at he; have HE1 := Aside0.mk he; clear he ha hc; go_wp2; go_quiet (fail); go_wp2; go_ret3; exact ⟨by rw [HE1.out]; rfl, below_then NB.out NB.out.size ((Drawn0.refl _).step nq).below⟩
        · (have ha1 : (a == r) = false := by simpa using ha); rw [if_neg ha] at he; have HE1 := Aside0.mk he; clear he ha; go_wp2; go_roundw
          case rel => exact ⟨i + 1, by omega, by go_num, HE1, NB⟩
          case measure => simp [intOf]; omega
      · have hd : decide ((i : Int) < 31) = false := decide_eq_false (by omega); (obtain rfl : i = 31 := by omega); have HE1 := Aside0.mk (show pairU r = (0, 0, 0) from HE.out); go_wp2; go_ret3; exact ⟨by rw [HE1.out]; rfl, HB.out⟩
  · have d1 : decide (44032 ≤ r) = true := decide_eq_true (by omega); have d0 : decide (r ≤ 55203) = false := decide_eq_false (by omega); have d2 : decide (256 ≤ r) = true := decide_eq_true (by omega); have d3 : decide (r < 384) = false := decide_eq_false (by omega); have d4 : decide (r < 192) = false := decide_eq_false (by omega); have d5 : decide (255 < r) = true := decide_eq_true (by omega); go_enter Tryd.func53, Tryd.ntmps53; go_wp2_with (refine wpList_load_mid rfl 111 (.global 0) rfl 0 0 rfl tl _ HT.out Tryd.underlying111 rfl HI.out ?_); go_loopw [57] (fun iv wr => ∃ i : Nat, i ≤ 31 ∧ iv = .int .i64 i ∧ Aside0 (pairU r = prsF r (prsT.drop i)) ∧ Aside0 (Below w.heap.size w wr)) (fun iv _ => 31 - (intOf iv).toNat)
    case atStart => exact ⟨0, Nat.zero_le _, rfl, ⟨HP.out⟩, ⟨Below.refl _ _⟩⟩
    case round =>
      obtain ⟨i, hi, rfl, HE, HB⟩ := hrel; by_cases hlt : i < 31
      · have hd : decide ((i : Int) < 31) = true := decide_eq_true (by omega); have hix := HX.out i hlt; have he := HE.out
        have hdr : prsT.drop i = prsT.getD i (0, 0, 0) :: prsT.drop (i + 1) := by
          have h1 : i < prsT.length := hlt; rw [List.drop_eq_getElem_cons h1, List.getD_eq_getElem?_getD, List.getElem?_eq_getElem h1]
          rfl
        rw [hdr, prsF] at he; obtain ⟨⟨a, b, c⟩, hp⟩ : ∃ p, p = prsT.getD i (0, 0, 0) := ⟨_, rfl⟩; rw [← hp] at hix he; simp only at hix he; clear hp hdr; have NB := Aside0.mk (show Below w.heap.size w (wr.alloc (.cells #[.int .i32 a, .int .i32 b, .int .i32 c] 110)) from below_then HB.out HB.out.size (below_alloc (Below.refl _ _) _)); by_cases ha : a = r
        · (have ha1 : (a == r) = true := by simpa using ha); rw [if_pos ha] at he; by_cases hc : c = 0
          · (have hc1 : (c == 0) = true := by simpa using hc); rw [if_pos hc] at he; have HE1 := Aside0.mk he; clear he ha hc; go_wp2; go_ret3; exact ⟨by rw [HE1.out]; rfl, NB.out⟩
          · (have hc1 : (c == 0) = false := by simpa using hc); rw [if_neg hc] at he; have HE1 := Aside0.mk he; clear he ha hc; go_wp2; go_quiet (fail); go_wp2; go_ret3; exact ⟨by rw [HE1.out]; rfl, below_then NB.out NB.out.size ((Drawn0.refl _).step nq).below⟩
        · (have ha1 : (a == r) = false := by simpa using ha); rw [if_neg ha] at he; have HE1 := Aside0.mk he; clear he ha; go_wp2; go_roundw
          case rel => exact ⟨i + 1, by omega, by go_num, HE1, NB⟩
          case measure => simp [intOf]; omega
      · have hd : decide ((i : Int) < 31) = false := decide_eq_false (by omega); (obtain rfl : i = 31 := by omega); have HE1 := Aside0.mk (show pairU r = (0, 0, 0) from HE.out); go_wp2; go_ret3; exact ⟨by rw [HE1.out]; rfl, HB.out⟩
theorem PairP (w : World) (hG : G w) (r : Int) (hr : -2147483648 ≤ r ∧ r ≤ 2147483647) : Calls Tryd.prog 53 #[.int .i32 r] w (PairPost w r) := by
  by_cases h1 : 44032 ≤ r ∧ r ≤ 55203
  · have := PairSyl w (r - 44032).toNat (by omega); rw [show 44032 + ((r - 44032).toNat : Int) = r by omega] at this; exact this
  · by_cases h2 : 256 ≤ r ∧ r < 384
    · have := PairMor w hG (r - 256).toNat (by omega); rw [show 256 + ((r - 256).toNat : Int) = r by omega] at this; exact this
    · by_cases h3 : r < 192 ∨ 255 < r
      · exact PairTab w hG r hr h1 h2 h3
      · have := PairLat w hG (r - 192).toNat (by omega); rw [show 192 + ((r - 192).toNat : Int) = r by omega] at this; exact this
end Go.Proofs.YthffpkdadffinaaDoor.Vc
namespace Go.Proofs.YthffpkdadffinaaDoor.X
set_option linter.unusedVariables false
set_option linter.unusedSimpArgs false
open Go.RowKit YthffpkdadffinaaDoorW.PrintWords
end Go.Proofs.YthffpkdadffinaaDoor.X
namespace Go.Proofs.YthffpkdadffinaaDoor.Vd
set_option linter.unusedVariables false
set_option linter.unusedSimpArgs false
open Go.RowKit YthffpkdadffinaaDoorW.PrintWords Hp Va Vc
def decF : Nat → Int → List Int
  | 0, r => [r]
  | k + 1, r => if (pairU r).2.2 = 0 then [r] else if (pairU r).2.2 = 1 then decF k (pairU r).1 else decF k (pairU r).1 ++ decF k (pairU r).2.1
def okF : Nat → Int → Bool
  | 0, _ => false
  | k + 1, r => if (pairU r).2.2 = 0 then true else if (pairU r).2.2 = 1 then okF k (pairU r).1 else okF k (pairU r).1 && okF k (pairU r).2.1
def keys : List Int := (List.range 192).map (fun i : Nat => (192 : Int) + (i : Int)) ++ prsT.map (·.1)
theorem prsF_none (r : Int) : ∀ l : List (Int × Int × Int), r ∉ l.map (·.1) → prsF r l = (0, 0, 0)
  | [], _ => rfl
  | p :: t, h => by
    simp only [List.map_cons, List.mem_cons, not_or] at h; rw [prsF, if_neg (fun e => h.1 e.symm), prsF_none r t h.2]
theorem pair_zero (r : Int) (hs : ¬ (44032 ≤ r ∧ r ≤ 55203)) (hk : r ∉ keys) : pairU r = (0, 0, 0) := by
  unfold keys at hk; rw [List.mem_append, not_or] at hk; (have h1 : ¬ (192 ≤ r ∧ r < 384) := fun h => hk.1 (List.mem_map.2 ⟨(r - 192).toNat, List.mem_range.2 (by omega), by omega⟩)); unfold pairU; rw [if_neg hs, if_neg (by omega), if_pos (by omega)]; exact prsF_none r _ hk.2
theorem syl_pair (s : Nat) (hs : s ≤ 11171) : pairU (44032 + (s : Int)) = if s % 28 = 0 then (4352 + ((s / 588 : Nat) : Int), 4449 + ((s % 588 / 28 : Nat) : Int), 2) else (44032 + (s : Int) - ((s % 28 : Nat) : Int), 4519 + ((s % 28 : Nat) : Int), 2) := by
  (have e1 : 44032 + (s : Int) - 44032 = (s : Int) := by omega); unfold pairU; rw [if_pos ⟨by omega, by omega⟩, e1]; by_cases h : s % 28 = 0
  · rw [if_pos (by omega), if_pos h]; congr 1
  · rw [if_neg (by omega), if_neg h]; congr 1
theorem cases3 (r : Int) : r ∈ keys ∨ (∃ s : Nat, s ≤ 11171 ∧ r = 44032 + (s : Int)) ∨ pairU r = (0, 0, 0) := by
  by_cases hk : r ∈ keys
  · exact .inl hk
  · by_cases hs : 44032 ≤ r ∧ r ≤ 55203
    · exact .inr (.inl ⟨(r - 44032).toNat, by omega, by omega⟩)
    · exact .inr (.inr (pair_zero r hs hk))
theorem jamo_none : ∀ k ∈ keys, k < 4352 ∨ 4546 < k := by decide +kernel
theorem jamo_zero (r : Int) (h : 4352 ≤ r ∧ r ≤ 4546) : pairU r = (0, 0, 0) := pair_zero r (by omega) (fun hk => by have := jamo_none r hk; omega)
theorem keys_pair : ∀ k ∈ keys, (0 ≤ (pairU k).1 ∧ (pairU k).1 < 65536) ∧ (0 ≤ (pairU k).2.1 ∧ (pairU k).2.1 < 65536) ∧ (0 ≤ (pairU k).2.2 ∧ (pairU k).2.2 < 3) ∧ okF 4 k = true := by decide +kernel
theorem okF_zero (k : Nat) (r : Int) (h : pairU r = (0, 0, 0)) : okF (k + 1) r = true := by rw [okF, h]; rfl
theorem decF_zero (k : Nat) (r : Int) (h : pairU r = (0, 0, 0)) : decF k r = [r] := by cases k with
  | zero => rfl
  | succ k => rw [decF, h]; rfl
theorem syl_lv (s : Nat) (hs : s ≤ 11171) (ht : s % 28 = 0) (k : Nat) : okF (k + 2) (44032 + (s : Int)) = true ∧ decF (k + 1) (44032 + (s : Int)) = [4352 + ((s / 588 : Nat) : Int), 4449 + ((s % 588 / 28 : Nat) : Int)] := by
  have h := syl_pair s hs; rw [if_pos ht] at h; have z1 := jamo_zero (4352 + ((s / 588 : Nat) : Int)) (by omega); have z2 := jamo_zero (4449 + ((s % 588 / 28 : Nat) : Int)) (by omega); rw [okF, decF, h]; simp only [okF_zero _ _ z1, okF_zero _ _ z2, decF_zero _ _ z1, decF_zero _ _ z2]; exact ⟨rfl, rfl⟩
theorem syl_all (s : Nat) (hs : s ≤ 11171) (k : Nat) : okF (k + 3) (44032 + (s : Int)) = true ∧ decF (k + 2) (44032 + (s : Int)) = [4352 + ((s / 588 : Nat) : Int), 4449 + ((s % 588 / 28 : Nat) : Int)] ++ if s % 28 = 0 then [] else [4519 + ((s % 28 : Nat) : Int)] := by
  by_cases ht : s % 28 = 0
  · have := syl_lv s hs ht (k + 1); rw [if_pos ht, List.append_nil]; exact this
  · have h := syl_pair s hs; rw [if_neg ht] at h ⊢; have h1 := syl_lv (s - s % 28) (by omega) (by omega) k; have z2 := jamo_zero (4519 + ((s % 28 : Nat) : Int)) (by omega); rw [show 44032 + ((s - s % 28 : Nat) : Int) = 44032 + (s : Int) - ((s % 28 : Nat) : Int) by omega, show (s - s % 28) / 588 = s / 588 by omega, show (s - s % 28) % 588 / 28 = s % 588 / 28 by omega] at h1; rw [okF, decF, h]; simp only [h1.1, h1.2, okF_zero _ _ z2, decF_zero _ _ z2]; exact ⟨rfl, rfl⟩
theorem okAll (r : Int) : okF 4 r = true := by
  rcases cases3 r with h | ⟨s, hs, rfl⟩ | h
  · exact (keys_pair r h).2.2.2
  · exact (syl_all s hs 1).1
  · exact okF_zero _ _ h
def decU (r : Int) : List Int := decF 4 r
theorem pair_range (r : Int) : (0 ≤ (pairU r).1 ∧ (pairU r).1 < 65536) ∧ (0 ≤ (pairU r).2.1 ∧ (pairU r).2.1 < 65536) ∧ (0 ≤ (pairU r).2.2 ∧ (pairU r).2.2 < 3) := by
  rcases cases3 r with h | ⟨s, hs, rfl⟩ | h
  · have := keys_pair r h; exact ⟨this.1, this.2.1, this.2.2.1⟩
  · rw [syl_pair s hs]; split <;> simp only <;> omega
  · rw [h]; simp
theorem decF_len : ∀ (k : Nat) (r : Int), (decF k r).length ≤ 2 ^ k
  | 0, _ => by simp [decF]
  | k + 1, r => by
    have h1 := decF_len k (pairU r).1; have h2 := decF_len k (pairU r).2.1; have h3 : 0 < 2 ^ k := Nat.two_pow_pos k; rw [decF, Nat.pow_succ]; split
    · simp; omega
    · split
      · omega
      · rw [List.length_append]; omega
abbrev K3 : Kd Int := Kd.int .i32
theorem info_3 : (Tryd.prog.info? 21).map (fun i => (i.zero, i.size, i.bytes)) = some (some (.int .i32 0), 1, 4) := by kernel_rfl
theorem K3_KM {w w' : World} {base : Nat} {ok : Nat → Prop} (x : Int) (cs : List Value) (h : K3.K w x cs) : K3.M w' base ok x cs := h
def NewR (w : World) (l : List Int) (e : Ending) (w' : World) : Prop := ∃ v, e = .returned v ∧ K3.R 21 w' w.heap.size (fun _ => True) v l ∧ Below w.heap.size w w'
theorem lit1 {w : World} {B : Nat} (hB : B ≤ w.heap.size) (a : Int) : K3.R 21 (w.alloc (.cells #[.int .i32 a] 21)) B (fun _ => True) (.slice (some ⟨w.heap.size, 0, none⟩) 1 1) [a] := by
  refine ⟨fun _ _ => trivial, [.int .i32 a], ?_, Reps.one (show Kd.M K3 _ _ _ a [.int .i32 a] from rfl) (Reps.none _ _)⟩; have h2 := World.ownsRow_lit (base := B) (e := 21) (size := 1) w #[.int .i32 a] 1 hB (by decide) rfl; exact h2
set_option maxRecDepth 100000 in
set_option maxHeartbeats 1000000 in
theorem DecF : ∀ (k : Nat) (_ : k ≤ 4) (w : World) (_ : G w) (r : Int) (_ : -2147483648 ≤ r ∧ r ≤ 2147483647) (_ : okF k r = true), Calls Tryd.prog 57 #[.int .i32 r] w (NewR w (decF k r)) := by
  intro k
  induction k with
  | zero => intro hk4 w hG r hr ho; exact absurd ho (by simp [okF])
  | succ k ih =>
    intro hk4 w hG r hr ho; have HG := Aside0.mk hG; have HO := Aside0.mk ho; have HI := Aside0.mk (ih (by omega)); have HR := Aside0.mk hr; have HP := Aside0.mk (pair_range r); have HD := Aside0.mk (show decF (k + 1) r = if (pairU r).2.2 = 0 then [r] else if (pairU r).2.2 = 1 then decF k (pairU r).1 else decF k (pairU r).1 ++ decF k (pairU r).2.1 from rfl); have HO1 := Aside0.mk (show okF (k + 1) r = if (pairU r).2.2 = 0 then true else if (pairU r).2.2 = 1 then okF k (pairU r).1 else okF k (pairU r).1 && okF k (pairU r).2.1 from rfl); clear hG ho ih hr; have hPP := PairP w HG.out r HR.out; unfold PairPost at hPP; obtain ⟨⟨a, b, n⟩, hp⟩ : ∃ p, p = pairU r := ⟨_, rfl⟩; rw [← hp] at hPP HP HD HO1; have HPP := Aside0.mk hPP; clear hPP hp; simp only at HPP HP HD HO1; obtain ⟨HP⟩ := HP; obtain ⟨⟨a0, a1⟩, ⟨b0, b1⟩, n0, n1⟩ := HP; by_cases h0 : n = 0
    · subst h0; rw [HD.out, if_pos rfl]; clear HD HO1 HO; go_enter Tryd.func57, Tryd.ntmps57; go_wp2_with (first | (go_at_call 53; go_must (refine HPP.out.mono ?_; rintro e w1 ⟨rfl, p1⟩; have P1 := Aside0.mk p1; clear p1))); go_ret; exact ⟨_, rfl, lit1 P1.out.size r, below_then P1.out P1.out.size (below_alloc (Below.refl _ _) _)⟩
    · by_cases h1 : n = 1
      · subst h1; have e0 : ((1 : Int) == 0) = false := rfl; rw [HD.out, if_neg (by decide), if_pos rfl]; have HO2 := Aside0.mk (show okF k a = true by have h := HO1.out; rw [if_neg (by decide), if_pos rfl] at h; rw [← h]; exact HO.out); clear HD HO1 HO; go_enter Tryd.func57, Tryd.ntmps57; go_wp2_with (first | (go_at_call 53; go_must (refine HPP.out.mono ?_; rintro e w1 ⟨rfl, p1⟩; have P1 := Aside0.mk p1; clear p1)) | (go_at_call 57; go_must (refine (HI.out w1 (HG.out.below P1.out) a ⟨by omega, by omega⟩ HO2.out).mono ?_; rintro e w2 ⟨v2, rfl, r2, p2⟩; have R2 := Aside0.mk r2; have P2 := Aside0.mk p2; clear r2 p2))); go_ret; exact ⟨_, rfl, Kd.R_lower R2.out P1.out.size, below_then P1.out P1.out.size P2.out⟩
      · (have h2 : n = 2 := by omega); subst h2; rw [HD.out, if_neg (by decide), if_neg (by decide)]; have HO2 := Aside0.mk (show okF k a = true ∧ okF k b = true by have h := HO1.out; rw [if_neg (by decide), if_neg (by decide)] at h; rw [← Bool.and_eq_true, ← h]; exact HO.out); clear HD HO1 HO; have la := decF_len k a; have lb := decF_len k b; obtain ⟨x, hx⟩ : ∃ x, x = decF k a := ⟨_, rfl⟩; obtain ⟨y, hy⟩ : ∃ y, y = decF k b := ⟨_, rfl⟩; have HL := Aside0.mk (show x.length + y.length ≤ 1000 by rw [hx, hy]; have := Nat.pow_le_pow_right (n := 2) (by decide) (show k ≤ 4 by omega); omega); have HA := Aside0.mk (fun w2 h => HI.out w2 h a ⟨by omega, by omega⟩ HO2.out.1); have HB := Aside0.mk (fun w2 h => HI.out w2 h b ⟨by omega, by omega⟩ HO2.out.2); rw [← hx] at HA ⊢; rw [← hy] at HB ⊢; clear hx hy la lb; go_enter Tryd.func57, Tryd.ntmps57; go_wp2_with (first | (go_at_call 53; go_must (refine HPP.out.mono ?_; rintro e w1 ⟨rfl, p1⟩; have P1 := Aside0.mk p1; clear p1)) | (go_at_call 57; refine (HA.out w1 (HG.out.below P1.out)).mono ?_; rintro e w2 ⟨v2, rfl, r2, p2⟩; have R2 := Aside0.mk r2; have P2 := Aside0.mk (below_then P1.out P1.out.size p2); clear r2 p2 HA) | (go_at_call 57; go_must (refine (HB.out w2 (HG.out.below P2.out)).mono ?_; rintro e w3 ⟨v3, rfl, r3, p3⟩; obtain ⟨A3, c3, rfl, hc3, hC3⟩ := Kd.R_reads r3; have C3 := Aside0.mk hC3; have R3 := Aside0.mk (Kd.R_below (Kd.R_lower R2.out P1.out.size) p3); have P3 := Aside0.mk (below_then P2.out P2.out.size p3); clear r3 p3 hC3)) | (at_builtin; go_must (refine Kd.R_append_rows K3 (Rr := K3.K w3) (w0 := w) w.heap.size rfl (.tmp 22) (.tmp 24) 42 21 (.int .i32 0) 4 rfl Tryd.underlying42 info_3 rfl (by decide) (by decide) v2 x y A3 _ c3 (fun _ => True) (fun _ => False) rfl rfl R3.out C3.out (fun x cs h => K3_KM x cs h) (fun _ h => h.elim) (fun _ _ => trivial) P3.out P3.out.size ?hl ?hh)))
        case hl => have := HL.out; omega
        case hh =>
          intro v1 w4 hR hb4 hg4 hat4; have R4 := Aside0.mk hR; have P4 := Aside0.mk hb4; clear hR hb4 hg4 hat4; go_wp2; go_ret; exact ⟨_, rfl, R4.out, P4.out⟩
theorem DecP (w : World) (hG : G w) (r : Int) (hr : -2147483648 ≤ r ∧ r ≤ 2147483647) : Calls Tryd.prog 57 #[.int .i32 r] w (NewR w (decU r)) := DecF 4 (by decide) w hG r hr (okAll r)
end Go.Proofs.YthffpkdadffinaaDoor.Vd
namespace Go.Proofs.YthffpkdadffinaaDoor.X
set_option linter.unusedVariables false
set_option linter.unusedSimpArgs false
open Go.RowKit YthffpkdadffinaaDoorW.PrintWords
def ucd_Decompose.f (a0 : Int) : Option (List Int) := if -2147483648 ≤ a0 ∧ a0 ≤ 2147483647 then some (Vd.decU a0) else none
theorem ucd_Decompose.calls (a0 : Int) (r : List Int) (w : World) (h : ucd_Decompose.f a0 = some r) (hG0 : Va.G w) : Calls Tryd.prog 57 #[.int .i32 a0] w fun e w' => ∃ v0_ : Value, e = .returned (v0_) ∧ Kd.R (Kd.int .i32) 21 w' w.heap.size (fun _ => True) v0_ r ∧ Below w.heap.size w w' := by
  unfold ucd_Decompose.f at h; split at h
  · rename_i hr; obtain rfl := Option.some.inj h; exact Vd.DecP w hG0 a0 hr
  · cases h
end Go.Proofs.YthffpkdadffinaaDoor.X
namespace Go.Proofs.YthffpkdadffinaaDoor.Fr
set_option linter.unusedVariables false
set_option linter.unusedSimpArgs false
open Go.RowKit YthffpkdadffinaaDoorW.PrintWords YthffpkdadffinaaDoorW.PrintLast YthffpkdadffinaaDoorW.PrintMore Hp Va Vd Na Nb Nc Ns Ng X
abbrev T3 : Nat := 21
abbrev K3 : Kd Int := Kd.int .i32
def Row (w : World) (A : Option Addr) (c : Nat) (l : List Int) : Prop := (A = none ∧ l = [] ∧ c = 0) ∨ ∃ g post, A = some ⟨g, 0, none⟩ ∧ Reg w g [] post l ∧ l.length ≤ c ∧ c ≤ maxLen
theorem Row.C {w : World} {A : Option Addr} {c : Nat} {l : List Int} (h : Row w A c l) (hm : l.length ≤ 9223372036854775807) : K3.C w A l.length l := by
  refine rdC ⟨rfl, hm, fun hp => ?_⟩; rcases h with ⟨_, rfl, _⟩ | ⟨g, post, rfl, hR, _, _⟩
  · simp at hp
  · refine ⟨_, rfl, fun j hj => ?_⟩; have := hR.at_ j hj; rw [add_plain]
    simpa using this
section
variable {g base : Nat} {kept : List Int} {closed : Bool} {ok ok' : Nat → Prop} {w w1 : World}
end
theorem Row.of {w : World} {base : Nat} {ok : Nat → Prop} {v : Value} {xs : List Int} (h : K3.R T3 w base ok v xs) : ∃ A c, v = .slice A xs.length c ∧ xs.length ≤ c ∧ Row w A c xs ∧ ∀ ad, A = some ad → base ≤ ad.block ∧ ok ad.block := by
  rcases Reg.of_row (n := 0) (c := 0) h with ⟨rfl, n, rfl, rfl⟩ | ⟨g, cap, post, rfl, h1, h2, h3, h4, h5⟩
  · exact ⟨none, 0, rfl, Nat.zero_le _, .inl ⟨rfl, rfl, rfl⟩, fun _ h => by cases h⟩
  · exact ⟨_, _, rfl, h1, .inr ⟨g, post, rfl, h5, h1, h2⟩, fun ad had => by cases had; exact ⟨h4, h.1 g rfl⟩⟩
end Go.Proofs.YthffpkdadffinaaDoor.Fr
namespace Go.Proofs.YthffpkdadffinaaDoor.X
open Go.RowKit YthffpkdadffinaaDoorW.PrintWords YthffpkdadffinaaDoorW.PrintLast YthffpkdadffinaaDoorW.PrintMore
attribute [local go_sem] max2_int min2_int max_two min_two max_three min_three max_four min_four   
set_option linter.unusedVariables false
set_option linter.unusedSimpArgs false
def ucd_Trailing.f (a0 : Int) : Option (Bool) := if a0 ≥ 4449 then (if a0 ≤ 4469 then (some true) else (if a0 ≥ 4520 then (some (decide (a0 ≤ 4546))) else (some false))) else (if a0 ≥ 4520 then (some (decide (a0 ≤ 4546))) else (some false))
set_option maxHeartbeats 8000000 in
set_option maxRecDepth 100000 in
theorem ucd_Trailing.calls (a0 : Int) (r : Bool) (w : World) (h : ucd_Trailing.f a0 = some r) :
  Calls Tryd.prog 60 #[.int .i32 a0] w fun e w' => e = .returned (.bool r) ∧ Drawn0 w w' := by
 have H : (if a0 ≥ 4449 then (if a0 ≤ 4469 then (some true) else (if a0 ≥ 4520 then (some (decide (a0 ≤ 4546))) else (some false))) else (if a0 ≥ 4520 then (some (decide (a0 ≤ 4546))) else (some false))) = some r := h; clear h; by_cases c2 : a0 ≥ 4449
 ·rw [if_pos c2] at H; have c2b0 : decide (4449 ≤ a0) = true := decide_eq_true c2; clear c2; by_cases c3 : a0 ≤ 4469
  ·rw [if_pos c3] at H; have c3b0 : decide (a0 ≤ 4469) = true := decide_eq_true c3; clear c3; obtain rfl := Option.some.inj H; go_enter Tryd.func60, Tryd.ntmps60; go_wp2; go_ret; exact ⟨by first | rfl | (simp; done) | (simp [*]; done), by repeat (first | exact Drawn0.refl _ | apply Drawn0.step)⟩
  ·rw [if_neg c3] at H; have c3b0 : decide (a0 ≤ 4469) = false := decide_eq_false c3; clear c3; by_cases c4 : a0 ≥ 4520
   ·rw [if_pos c4] at H; have c4b0 : decide (4520 ≤ a0) = true := decide_eq_true c4; clear c4; obtain rfl := Option.some.inj H; go_enter Tryd.func60, Tryd.ntmps60; go_wp2; go_ret; exact ⟨by first | rfl | (simp; done) | (simp [*]; done), by repeat (first | exact Drawn0.refl _ | apply Drawn0.step)⟩
   ·rw [if_neg c4] at H; have c4b0 : decide (4520 ≤ a0) = false := decide_eq_false c4; clear c4; obtain rfl := Option.some.inj H; go_enter Tryd.func60, Tryd.ntmps60; go_wp2; go_ret; exact ⟨by first | rfl | (simp; done) | (simp [*]; done), by repeat (first | exact Drawn0.refl _ | apply Drawn0.step)⟩
 ·rw [if_neg c2] at H; have c2b0 : decide (4449 ≤ a0) = false := decide_eq_false c2; clear c2; by_cases c5 : a0 ≥ 4520
  ·rw [if_pos c5] at H; have c5b0 : decide (4520 ≤ a0) = true := decide_eq_true c5; clear c5; obtain rfl := Option.some.inj H; go_enter Tryd.func60, Tryd.ntmps60; go_wp2; go_ret; exact ⟨by first | rfl | (simp; done) | (simp [*]; done), by repeat (first | exact Drawn0.refl _ | apply Drawn0.step)⟩
  ·rw [if_neg c5] at H; have c5b0 : decide (4520 ≤ a0) = false := decide_eq_false c5; clear c5; obtain rfl := Option.some.inj H; go_enter Tryd.func60, Tryd.ntmps60; go_wp2; go_ret; exact ⟨by first | rfl | (simp; done) | (simp [*]; done), by repeat (first | exact Drawn0.refl _ | apply Drawn0.step)⟩
end Go.Proofs.YthffpkdadffinaaDoor.X
namespace Go.Proofs.YthffpkdadffinaaDoor.Ve
set_option linter.unusedVariables false
set_option linter.unusedSimpArgs false
open Go.RowKit YthffpkdadffinaaDoorW.PrintWords Hp Va Vc Vd X
def trl (r : Int) : Bool := decide (4449 ≤ r ∧ r ≤ 4469 ∨ 4520 ≤ r ∧ r ≤ 4546)
theorem trl_pure (r : Int) : ucd_Trailing.f r = some (trl r) := by
  unfold ucd_Trailing.f trl; split
  · split
    · congr 1; symm; rw [decide_eq_true_eq]; omega
    · split
      · congr 1; rw [decide_eq_decide]; omega
      · congr 1; symm; rw [decide_eq_false_iff_not]; omega
  · split
    · congr 1; rw [decide_eq_decide]; omega
    · congr 1; symm; rw [decide_eq_false_iff_not]; omega
theorem TrailP (w : World) (r : Int) : Calls Tryd.prog 60 #[.int .i32 r] w fun e w' => e = .returned (.bool (trl r)) ∧ Below w.heap.size w w' :=
  (ucd_Trailing.calls r (trl r) w (trl_pure r)).mono fun _ _ h => ⟨h.1, h.2.below⟩
theorem decF_ne : ∀ (k : Nat) (r : Int), decF k r ≠ []
  | 0, _ => by simp [decF]
  | k + 1, r => by
    have := decF_ne k (pairU r).1; rw [decF]; split
    · simp
    · split
      · exact this
      · simp [this]
def opn (r : Int) : Bool := (cls ((decU r).getD 0 0) == 0) && !trl ((decU r).getD 0 0)
theorem intC {w : World} {A : Option Addr} {n : Nat} {xs : List Int} (h : K3.C w A n xs) (j : Nat) (hj : j < n) : ∃ ad, A = some ad ∧ w.cell? (ad.add j) = some (.int .i32 (xs.getD j 0)) := by
  have h1 := (rdint h).2.2 (by omega); obtain ⟨ad, h2, h3⟩ := h1; exact ⟨ad, h2, h3 j hj⟩
theorem intC0 {w : World} {A : Option Addr} {n : Nat} {xs : List Int} (h : K3.C w A n xs) (hn : 0 < n) : ∃ ad, A = some ad ∧ w.cell? ad = some (.int .i32 (xs.getD 0 0)) := by
  obtain ⟨ad, h2, h3⟩ := intC h 0 hn; exact ⟨ad, h2, h3⟩
set_option maxRecDepth 100000 in
set_option maxHeartbeats 1000000 in
theorem OpensP (w : World) (hG : G w) (r : Int) (hr : -2147483648 ≤ r ∧ r ≤ 2147483647) : Calls Tryd.prog 59 #[.int .i32 r] w fun e w' => e = .returned (.bool (opn r)) ∧ Below w.heap.size w w' := by
  have HG := Aside0.mk hG; have HD := Aside0.mk (DecP w hG r hr); have HNE := Aside0.mk (decF_ne 4 r); have HO := Aside0.mk (show opn r = ((cls ((decU r).getD 0 0) == 0) && !trl ((decU r).getD 0 0)) from rfl); clear hG hr; obtain ⟨l, hl⟩ : ∃ l, l = decU r := ⟨_, rfl⟩; rw [show decF 4 r = decU r from rfl, ← hl] at HNE; rw [← hl] at HD HO; clear hl; obtain ⟨n, hn⟩ : ∃ n, n = l.length := ⟨_, rfl⟩; (have hn0 : 0 < n := by rw [hn]; exact List.length_pos_iff.2 HNE.out); obtain ⟨x, hx⟩ : ∃ x, x = l.getD 0 0 := ⟨_, rfl⟩; rw [← hx] at HO; have HN := Aside0.mk hn; have HX := Aside0.mk hx; clear hn hx
  cases hc : (cls x == 0) with
  | true =>
    rw [hc, Bool.true_and] at HO; go_enter Tryd.func59, Tryd.ntmps59; go_wp2_with (first | (go_at_call 57; go_must (refine HD.out.mono ?_; rintro e w1 ⟨v1, rfl, r1, p1⟩; obtain ⟨A1, c1, rfl, hc1, hC1⟩ := Kd.R_reads r1; have HB := Aside0.mk p1; rw [← HN.out] at hC1 ⊢; obtain ⟨ad, rfl, cell⟩ := intC0 hC1 hn0; rw [← HX.out] at cell; clear r1 p1 hC1 hc1)) | (go_at_call 55; go_must (refine (ClassP w1 (HG.out.below HB.out) x).mono ?_; rintro e w2 ⟨rfl, p2⟩; have HB2 := Aside0.mk (below_then HB.out HB.out.size p2); clear p2)) | (go_at_call 60; go_must (refine (TrailP w2 x).mono ?_; rintro e w3 ⟨rfl, p3⟩; have HB3 := Aside0.mk (below_then HB2.out HB2.out.size p3); clear p3))); go_ret; exact ⟨by rw [HO.out]; rfl, HB3.out⟩
  | false =>
    rw [hc, Bool.false_and] at HO; go_enter Tryd.func59, Tryd.ntmps59; go_wp2_with (first | (go_at_call 57; go_must (refine HD.out.mono ?_; rintro e w1 ⟨v1, rfl, r1, p1⟩; obtain ⟨A1, c1, rfl, hc1, hC1⟩ := Kd.R_reads r1; have HB := Aside0.mk p1; rw [← HN.out] at hC1 ⊢; obtain ⟨ad, rfl, cell⟩ := intC0 hC1 hn0; rw [← HX.out] at cell; clear r1 p1 hC1 hc1)) | (go_at_call 55; go_must (refine (ClassP w1 (HG.out.below HB.out) x).mono ?_; rintro e w2 ⟨rfl, p2⟩; have HB2 := Aside0.mk (below_then HB.out HB.out.size p2); clear p2))); go_ret; exact ⟨by rw [HO.out]; rfl, HB2.out⟩
end Go.Proofs.YthffpkdadffinaaDoor.Ve
namespace Go.Proofs.YthffpkdadffinaaDoor.X
set_option linter.unusedVariables false
set_option linter.unusedSimpArgs false
open Go.RowKit YthffpkdadffinaaDoorW.PrintWords
def ucd_Opens.f (a0 : Int) : Option Bool := if -2147483648 ≤ a0 ∧ a0 ≤ 2147483647 then some (Ve.opn a0) else none
theorem ucd_Opens.calls (a0 : Int) (r : Bool) (w : World) (h : ucd_Opens.f a0 = some r) (hG0 : Va.G w) : Calls Tryd.prog 59 #[.int .i32 a0] w fun e w' => e = .returned (.bool r) ∧ Below w.heap.size w w' := by
  unfold ucd_Opens.f at h; split at h
  · rename_i hr; obtain rfl := Option.some.inj h; exact Ve.OpensP w hG0 a0 hr
  · cases h
end Go.Proofs.YthffpkdadffinaaDoor.X
namespace Go.Proofs.YthffpkdadffinaaDoor.Ev0
set_option linter.unusedVariables false
set_option linter.unusedSimpArgs false
open Go.RowKit YthffpkdadffinaaDoorW.PrintWords
theorem w64 {i : Nat} (h : i < 4611686018427387904) : wrap64 ((i : Int) + 1) = ((i + 1 : Nat) : Int) := by unfold wrap64; omega
theorem rd_nat {l : List Int} {i : Nat} (h : i < l.length) : rd l (i : Int) = l[i] := by simp [rd, List.getD_eq_getElem?_getD, List.getElem?_eq_getElem h]
theorem ev_range {α : Type} {F : Nat → Int → Option α} {n : Nat} {r : α} (hend : Ev (fun k => F k (n : Int)) r) (hstep : ∀ i : Nat, i < n → Ev (fun k => F k ((i + 1 : Nat) : Int)) r → Ev (fun k => F k (i : Int)) r) : ∀ i : Nat, i ≤ n → Ev (fun k => F k (i : Int)) r := by
  have key : ∀ d i : Nat, i + d = n → Ev (fun k => F k (i : Int)) r := by
    intro d
    induction d with
    | zero => intro i h; obtain rfl : i = n := by omega
              exact hend
    | succ d ih => intro i h; exact hstep i (by omega) (ih (i + 1) (by omega))
  intro i h; exact key (n - i) i (by omega)
end Go.Proofs.YthffpkdadffinaaDoor.Ev0
