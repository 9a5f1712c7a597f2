/-
  Several texts of this claim in one: what its law's proof uses.
-/
import Derived.Test.YtiggjbclbdikmaaDoorMN0
import Derived.Test.YtiggjbclbdikmaaDoorProg
import Derived.WalkKit
import Derived.WalkSpells
import Derived.WalkLawsBesides
import Derived.BigQuiet
import Derived.Deep.QuietTactic
import Derived.Laws.RangeString
import Derived.Deep.RegionHeld3
import Derived.Test.YtiggjbclbdikmaaDoorWRepsOne
import Derived.Test.YtiggjbclbdikmaaDoorWWords
/-
  norm.ordered: the runs of marks in order.
-/
namespace Go.Proofs.YtiggjbclbdikmaaDoor.Ng
set_option linter.unusedVariables false
set_option linter.unusedSimpArgs false
open Go.RowKit Go.Proofs.YtiggjbclbdikmaaDoorW.PrintWords Go.Proofs.YtiggjbclbdikmaaDoor.Hp Go.Proofs.YtiggjbclbdikmaaDoor.Va Go.Proofs.YtiggjbclbdikmaaDoor.Na Go.Proofs.YtiggjbclbdikmaaDoor.Nb Go.Proofs.YtiggjbclbdikmaaDoor.Nc Go.Proofs.YtiggjbclbdikmaaDoor.Nd Go.Proofs.YtiggjbclbdikmaaDoor.Nr Go.Proofs.YtiggjbclbdikmaaDoor.Ns Go.Proofs.YtiggjbclbdikmaaDoor.Nw

theorem nums_app (k : IntKind) (a b : List Int) : nums k (a ++ b) = nums k a ++ nums k b := by simp [nums]
theorem nums_len (k : IntKind) (a : List Int) : (nums k a).length = a.length := by simp [nums]
/-- A stretch of a stretch. -/
theorem Reg.mid {w : World} {g : Nat} {pre post : List Value} {P S Q : List Int} (h : Reg w g pre post (P ++ S ++ Q)) : Reg w g (pre ++ nums .i32 P) (nums .i32 Q ++ post) S := by
  unfold Reg at *
  rw [h, nums_app, nums_app]
  simp only [List.append_assoc]
theorem Reg.out {w : World} {g : Nat} {pre post : List Value} {P S Q : List Int} (h : Reg w g (pre ++ nums .i32 P) (nums .i32 Q ++ post) S) : Reg w g pre post (P ++ S ++ Q) := by
  unfold Reg at *
  rw [h, nums_app, nums_app]
  simp only [List.append_assoc]
theorem ordL_nil : ordL [] = [] := rfl
/-- One run, and the starter behind it. -/
theorem run_step {l D R S : List Int} (k : Nat) (hl : ordL l = D ++ ordL R) (hk : ∀ x ∈ R.take k, cls x ≠ 0) (hS : Srt S) (hSw : Sw (R.take k) S) :
    (R.drop k = [] → ordL l = D ++ S ++ ordL []) ∧ (∀ z t, R.drop k = z :: t → cls z = 0 → ordL l = (D ++ S ++ [z]) ++ ordL t) := by
  have h1 : ordL (R.take k) = S := ordL_run hk hS hSw
  refine ⟨fun h => ?_, fun z t h hz => ?_⟩
  · rw [hl, ordL_nil, List.append_nil, ← h1, ← List.take_append_drop k R, h, List.append_nil, List.take_take, Nat.min_self]
  · have h2 : ordL R = ordL (R.take k) ++ z :: ordL t := by
      rw [← ordL_starter _ _ hz, ← h, List.take_append_drop]
    rw [hl, h2, h1]
    simp
set_option maxRecDepth 100000 in
set_option maxHeartbeats 4000000 in
theorem OrdP (w : World) (hG : G w) (g : Nat) (hg : 3 ≤ g) (post : List Value) (l : List Int) (hR : Reg w g [] post l) (n c : Nat) (hn : n = l.length) (hn5 : n ≤ 1000000000000000) (hcn : n ≤ c) :
    Calls Tryd.prog 54 #[.slice (some ⟨g, 0, none⟩) n c] w fun e w' => e = .returned (.slice (some ⟨g, 0, none⟩) n c) ∧ Chg (fun b => b = g) w w' ∧ Reg w' g [] post (ordL l) := by
  have HG := Aside0.mk hG
  have HR := Aside0.mk hR
  have HN := Aside0.mk hn
  clear hG hR hn
  go_enter Tryd.func54, Tryd.ntmps54
  go_wp2
  go_loopw [3] (fun fv wr => ∃ (f : Nat) (D R : List Int), fv = .int .i64 f ∧ f ≤ n + 1 ∧ Aside0 (f = D.length ∨ (R = [] ∧ D.length ≤ f)) ∧ Aside0 (n = D.length + R.length) ∧ Aside0 (ordL l = D ++ ordL R) ∧ Aside0 (Reg wr g [] post (D ++ R)) ∧ Aside0 (Chg (fun b => b = g) w wr)) (fun fv _ => n + 1 - (intOf fv).toNat)
  case atStart => exact ⟨0, [], l, rfl, Nat.zero_le _, ⟨.inl rfl⟩, ⟨by rw [HN.out]; simp⟩, ⟨by simp⟩, HR, ⟨Chg.refl _ _⟩⟩
  case round =>
    obtain ⟨f, D, R, rfl, hfn, HFd, HNl, HO, HRr, HC⟩ := hrel
    by_cases hlt : f < n
    · have hd : decide ((f : Int) < (n : Int)) = true := decide_eq_true (by omega)
      have hd2 : decide (f < n) = true := decide_eq_true hlt
      have HDl : Aside0 (f = D.length) := ⟨by
        rcases HFd.out with h | ⟨h1, h2⟩
        · exact h
        · have := HNl.out
          rw [h1] at this
          simp at this
          omega⟩
      clear HFd
      go_wp2
      go_loopw [4] (fun tv wr => ∃ (t : Nat), tv = .int .i64 t ∧ f ≤ t ∧ t ≤ n ∧ Aside0 (∀ x ∈ R.take (t - f), cls x ≠ 0) ∧ Aside0 (Reg wr g [] post (D ++ R)) ∧ Aside0 (Chg (fun b => b = g) w wr)) (fun tv _ => n - (intOf tv).toNat)
      case atStart => exact ⟨f, rfl, Nat.le_refl _, by omega, ⟨by rw [Nat.sub_self]; simp⟩, HRr, HC⟩
      case round =>
        clear HRr HC
        obtain ⟨t, rfl, hft, htn, HK, HR2, HC2⟩ := hrel
        by_cases htl : t < n
        · have hq : decide ((t : Int) < (n : Int)) = true := decide_eq_true (by omega)
          have hq2 : decide (t < n) = true := decide_eq_true htl
          have hj : (t : Int) < (n : Int) := by omega
          obtain ⟨x, hx1, hx2, hx3, -⟩ := split_at (S := R) (t := t - f) (by have := HNl.out; have := HDl.out; omega)
          have c1 := HR2.out
          rw [hx1, show D ++ (R.take (t - f) ++ x :: R.drop (t - f + 1)) = (D ++ R.take (t - f)) ++ x :: R.drop (t - f + 1) by simp] at c1
          have c1 := Reg.one c1 (off := 0) rfl (p := t) (by have := HDl.out; have := HNl.out; simp only [List.length_append, List.length_take]; omega)
          rw [Nat.zero_add] at c1
          have HX1 := Aside0.mk hx2
          have HX2 := Aside0.mk hx3
          clear hx1 hx2 hx3
          by_cases hc : cls x = 0
          · have hc2 : (cls x != 0) = false := by rw [hc]; rfl
            have hc3 : (cls x == 0) = true := by rw [hc]; rfl
            have HCx := Aside0.mk hc
            have HCl := Aside0.mk (ClassP wr (G_chg HG.out HC2.out (fun k hk e => by omega)) x)
            clear hc
            go_upto_region 6 with (first | (go_at_call 62; go_must (refine HCl.out.mono ?_; rintro e w2 ⟨rfl, p1⟩; have HC3 := Aside0.mk (HC2.out.then_below p1); have HR3 := Aside0.mk (HR2.out.below p1); clear p1 c1 HC2 HR2)))
            have HC2 := HC3
            have HR2 := HR3
            clear HC3 HR3
            have HCall := Aside0.mk (SortP _ (G_chg HG.out HC2.out (fun k hk e => by omega)) g hg (nums .i32 D) (nums .i32 (R.drop (t - f)) ++ post) (R.take (t - f)) (Reg.mid (pre := []) (by have := HR2.out; rw [List.append_assoc, List.take_append_drop]; exact this)) (t - f) (c - f) f (by have := HNl.out; have := HDl.out; rw [List.length_take]; omega) (by omega) (by rw [nums_len]; exact HDl.out))
            have i1 : ((t : Int) - (f : Int)) = ((t - f : Nat) : Int) := by omega
            go_wp2_with (first | (go_at_call 76; go_must (refine HCall.out.mono ?_; rintro e w3 ⟨rfl, p1, X, p2, p3, p4⟩; have HC3 := Aside0.mk (HC2.out.trans p1 (fun _ _ h => h)); have HR3 := Aside0.mk (Reg.out (pre := []) p2); have HX := Aside0.mk (And.intro p3 p4); clear p1 p2 p3 p4 HC2 HR2)))
            go_roundw
            case rel =>
              have h1 := HX2.out
              have := HNl.out
              have := HDl.out
              have hxl : X.length = t - f := by rw [← HX.out.2.length, List.length_take]; omega
              exact ⟨t + 1, D ++ X ++ [x], R.drop (t - f + 1), by go_num, by omega, ⟨.inl (by simp only [List.length_append, List.length_singleton]; omega)⟩, ⟨by simp only [List.length_append, List.length_singleton, List.length_drop]; omega⟩, ⟨(run_step (t - f) HO.out HK.out HX.out.1 HX.out.2).2 x _ HX1.out HCx.out⟩, ⟨by have := HR3.out; rw [HX1.out] at this; simp only [List.append_assoc, List.singleton_append] at this ⊢; exact this⟩, HC3⟩
            case measure => simp [intOf] <;> omega
          · have hc2 : (cls x != 0) = true := by simpa using hc
            have hc3 : (cls x == 0) = false := by simpa using hc
            have HCx := Aside0.mk hc
            have HCl := Aside0.mk (ClassP wr (G_chg HG.out HC2.out (fun k hk e => by omega)) x)
            clear hc
            go_wp2_with (first | (go_at_call 62; go_must (refine HCl.out.mono ?_; rintro e w2 ⟨rfl, p1⟩; have HC3 := Aside0.mk (HC2.out.then_below p1); have HR3 := Aside0.mk (HR2.out.below p1); clear p1 c1 HC2 HR2)))
            go_roundw
            case rel => exact ⟨t + 1, by go_num, by omega, by omega, ⟨by rw [show t + 1 - f = t - f + 1 by omega, HX2.out]; intro y hy; rcases List.mem_append.1 hy with hy | hy; (· exact HK.out y hy); (· rw [List.mem_singleton.1 hy]; exact HCx.out)⟩, HR3, HC3⟩
            case measure => simp [intOf] <;> omega
        · have hq : decide ((t : Int) < (n : Int)) = false := decide_eq_false (by omega)
          have hq2 : decide (t < n) = false := decide_eq_false htl
          have htn2 : t = n := by omega
          have HT := Aside0.mk htn2
          clear htn2
          go_upto_region 6 with (fail)
          have HCall := Aside0.mk (SortP _ (G_chg HG.out HC2.out (fun k hk e => by omega)) g hg (nums .i32 D) (nums .i32 (R.drop (t - f)) ++ post) (R.take (t - f)) (Reg.mid (pre := []) (by have := HR2.out; rw [List.append_assoc, List.take_append_drop]; exact this)) (t - f) (c - f) f (by have := HNl.out; have := HDl.out; rw [List.length_take]; omega) (by omega) (by rw [nums_len]; exact HDl.out))
          have i1 : ((t : Int) - (f : Int)) = ((t - f : Nat) : Int) := by omega
          go_wp2_with (first | (go_at_call 76; go_must (refine HCall.out.mono ?_; rintro e w3 ⟨rfl, p1, X, p2, p3, p4⟩; have HC3 := Aside0.mk (HC2.out.trans p1 (fun _ _ h => h)); have HR3 := Aside0.mk (Reg.out (pre := []) p2); have HX := Aside0.mk (And.intro p3 p4); clear p1 p2 p3 p4 HC2 HR2)))
          go_roundw
          case rel =>
            have := HNl.out
            have := HDl.out
            have := HT.out
            have hdr : R.drop (t - f) = [] := List.drop_eq_nil_of_le (by omega)
            have hxl : X.length = t - f := by rw [← HX.out.2.length, List.length_take]; omega
            exact ⟨t + 1, D ++ X, [], by go_num, by omega, ⟨.inr ⟨rfl, by simp only [List.length_append]; omega⟩⟩, ⟨by simp only [List.length_append, List.length_nil]; omega⟩, ⟨(run_step (t - f) HO.out HK.out HX.out.1 HX.out.2).1 hdr⟩, ⟨by have := HR3.out; rw [hdr] at this; exact this⟩, HC3⟩
          case measure => simp [intOf] <;> omega
    · have hd : decide ((f : Int) < (n : Int)) = false := decide_eq_false (by omega)
      have hd2 : decide (f < n) = false := decide_eq_false hlt
      go_wp2
      go_ret
      refine ⟨rfl, HC.out, ?_⟩
      have hr : R = [] := by
        rcases HFd.out with h | ⟨h1, h2⟩
        · have := HNl.out
          exact List.eq_nil_of_length_eq_zero (by omega)
        · exact h1
      have h1 := HO.out
      have h2 := HRr.out
      rw [hr] at h1 h2
      rw [h1]
      exact h2
set_option maxRecDepth 100000 in
theorem OrdN (w : World) : Calls Tryd.prog 54 #[.slice none 0 0] w fun e w' => e = .returned (.slice none 0 0) ∧ Chg (fun _ => False) w w' := by
  go_enter Tryd.func54, Tryd.ntmps54
  go_wp2
  go_loopw [3] (fun fv wr => fv = .int .i64 0 ∧ Aside0 (Chg (fun _ => False) w wr)) (fun fv _ => 0)
  case atStart => exact ⟨rfl, ⟨Chg.refl _ _⟩⟩
  case round =>
    obtain ⟨rfl, HC⟩ := hrel
    go_wp2
    go_ret
    exact ⟨rfl, HC.out⟩
end Go.Proofs.YtiggjbclbdikmaaDoor.Ng
namespace Go.Proofs.YtiggjbclbdikmaaDoor.X
open Go.RowKit Go.Proofs.YtiggjbclbdikmaaDoorW.PrintWords Go.Proofs.YtiggjbclbdikmaaDoor.Hp Go.Proofs.YtiggjbclbdikmaaDoor.Na Go.Proofs.YtiggjbclbdikmaaDoor.Nb Go.Proofs.YtiggjbclbdikmaaDoor.Ng
def norm_ordered.f (a0 : List Int) : Option (List Int) := if a0.length ≤ 1000000000000000 then some (ordL a0) else none
theorem norm_ordered.calls (P0_ : Nat → Prop) (u9000_ : Value) (l0 : List Int) (r : List Int) (w0 w : World) (hB : Below w0.heap.size w0 w) (ho0 : Kd.R (Kd.int .i32) 21 w w0.heap.size P0_ u9000_ l0) (h : norm_ordered.f l0 = some r) (hG0 : Va.G w0) :
    Calls Tryd.prog 54 #[u9000_] w fun e w' => ∃ v0_ : Value, e = .returned v0_ ∧ Kd.R (Kd.int .i32) 21 w' w0.heap.size (fun k_ => (P0_ k_ ∨ w.heap.size ≤ k_)) v0_ r ∧ Below w0.heap.size w0 w' ∧ Kept w w' (fun k_ => P0_ k_) := by
  unfold norm_ordered.f at h
  split at h
  case isFalse => exact absurd h (by simp)
  case isTrue hl =>
    have h := Option.some.inj h
    have hG : Va.G w := hG0.below hB
    have hok := ho0.1
    rcases Reg.of_row (n := 0) (c := 0) ho0 with ⟨rfl, n, rfl, rfl⟩ | ⟨g, cap, post, rfl, h1, h2, h3, h4, h5⟩
    · refine (OrdN w).mono ?_
      rintro e w' ⟨rfl, p1⟩
      rw [← h]
      exact ⟨_, rfl, Kd.R_mono (R_chg ho0 p1 (fun _ _ h => h)) (fun k hk => .inl hk), below_then hB hB.size (p1.below (B := w.heap.size) (fun k hk => ⟨hk, id⟩)), (p1.mono (fun _ _ h => h.elim)).kept⟩
    · have hg : 3 ≤ g := Nat.le_trans (G_size hG0) h4
      have hgP : P0_ g := hok g rfl
      refine (OrdP w hG g hg post l0 h5 l0.length cap rfl hl h1).mono ?_
      rintro e w' ⟨rfl, p1, p2⟩
      rw [← h]
      have hlen := ordL_len l0
      refine ⟨_, rfl, ?_, p1.below_of hB (fun k hk => by rw [hk]; exact h4), (p1.mono (fun k _ hk => by rw [hk]; exact hgP)).kept⟩
      have := Reg.to_row (ok := fun k_ => (P0_ k_ ∨ w.heap.size ≤ k_)) p2 h4 (.inl hgP) h2 (by rw [hlen]; exact h3)
      rw [hlen] at this
      exact this
end Go.Proofs.YtiggjbclbdikmaaDoor.X

/-
  slices.Clone[[]int32,int32]: a new row with the same numbers.
-/
namespace Go.Proofs.YtiggjbclbdikmaaDoor.Clint32
set_option linter.unusedVariables false
set_option linter.unusedSimpArgs false
open Go.RowKit Go.Proofs.YtiggjbclbdikmaaDoorW.PrintWords Go.Proofs.YtiggjbclbdikmaaDoor.Hp

theorem info_e : (Tryd.prog.info? 21).map (fun i => (i.zero, i.size, i.bytes)) = some (some (.int .i32 0), 1, 4) := by kernel_rfl

set_option maxHeartbeats 1000000 in
theorem clone (w : World) (A : Option Addr) (n c : Nat) (xs : List Int) (HR : ReadsInt w .i32 A n xs) (hl : n * 4 ≤ 140737488355328) :
    Calls Tryd.prog 61 #[.slice A n c] w fun e w' => Aside0 (∃ v, e = .returned v ∧ w'.ownsRow w.heap.size 21 1 v xs.length (nums .i32 xs) ∧ Below w.heap.size w w') := by
  have hn := fun w : World => Lib.run_eql_slice_nil (P := Tryd.prog) w 22 21 A n c 0 0 Tryd.underlying22
  cases A with
  | none =>
    have h0 : xs = [] := by
      have h1 := HR.1
      rcases Nat.eq_zero_or_pos n with h2 | h2
      · exact List.eq_nil_of_length_eq_zero (by omega)
      · obtain ⟨ad, h, _⟩ := HR.2.2 h2; cases h
    subst h0
    clear HR hl
    go_enter Tryd.func61, Tryd.ntmps61
    go_wp2
    go_ret
    exact ⟨_, rfl, own_nil _ _ _ _, Below.refl _ _⟩
  | some ad =>
    have hm := HR.2.1
    have hlen := HR.1
    have H := Aside0.mk HR
    clear HR
    go_enter Tryd.func61, Tryd.ntmps61
    have HL := Aside0.mk hlen
    clear hlen
    go_wp2_with (at_builtin; go_must (refine print_append_row (w0 := w) w.heap.size rfl (.tmp 5) (.tmp 6) 22 21 .i32 4 rfl Tryd.underlying22 info_e (by decide) (.slice (some ⟨w.heap.size, 0, none⟩) 0 0) [] xs (some ad) n c rfl rfl ?ho (H.out.below (below_alloc (Below.refl _ _) _)) (below_alloc (Below.refl _ _) _) ?hb ?hl ?hh))
    case ho => exact ⟨rfl, .inr ⟨w.heap.size, 0, #[], rfl, Nat.le_refl _, heap_alloc_new w _, Nat.le_refl _, by simp [maxLen], rfl, rfl⟩⟩
    case hb => simp
    case hl => simp; omega
    case hh =>
      intro v1 w1 hown hb hg hat
      obtain ⟨A1, c1, rfl⟩ := own_slice hown
      have HP := Aside0.mk hown
      clear hat hown
      go_wp2
      go_ret
      exact ⟨_, rfl, by simpa using HP.out, hb⟩
end Go.Proofs.YtiggjbclbdikmaaDoor.Clint32

/-
  ucd.named and ucd.Pair walked.
-/
namespace Go.Proofs.YtiggjbclbdikmaaDoor.Vc
set_option linter.unusedVariables false
set_option linter.unusedSimpArgs false
open Go.RowKit Go.Proofs.YtiggjbclbdikmaaDoorW.PrintWords Go.Proofs.YtiggjbclbdikmaaDoor.Hp Go.Proofs.YtiggjbclbdikmaaDoor.Va

abbrev nmS : ByteArray := ⟨#[103, 97, 99, 116, 109, 98, 112, 100, 114, 113, 118, 101, 111]⟩
def nmL : List Int := [103, 97, 99, 116, 109, 98, 112, 100, 114, 113, 118, 101, 111]
/-- The mark of a letter, from place i on. -/
def nmF (c : Int) : List Int → List Int → Int
  | a :: l, m :: t => if a = c then m else nmF c l t
  | _, _ => 0
def nmd (c : Int) : Int := nmF c nmL mksT
theorem nm_ascii : ∀ p : Fin 13, (nmS[p.1]'(p.2)).toNat < 128 ∧ (((nmS[p.1]'(p.2)).toNat : Nat) : Int) = nmL.getD p.1 0 := by decide
theorem nm_next (w : World) (pos : Nat) (h : pos < 13) (ty : TypeId) : (Instr.next (.pointer (some ⟨w.heap.size, 0, none⟩)) true ty).run Tryd.prog (w.iter nmS pos) = .ok (.tuple #[.bool true, .int .i64 pos, .int .i32 (nmL.getD pos 0)]) (w.iter nmS (pos + 1)) := by
  have h1 := nm_ascii ⟨pos, h⟩
  have := run_next_ascii (P := Tryd.prog) w nmS pos ty h h1.1
  rw [h1.2] at this
  exact this
theorem iter_below (w : World) (pos : Nat) : Below w.heap.size w (w.iter nmS pos) := below_alloc (Below.refl _ _) _
theorem iter_pos (w : World) (pos : Nat) : (w.iter nmS pos).iterPos w.heap.size = pos := by simp [World.iterPos, World.iter_heap]
set_option maxRecDepth 100000 in
set_option maxHeartbeats 1000000 in
theorem NamedP (w : World) (hG : G w) (c : Int) (hc : 0 ≤ c ∧ c < 256) : Calls Tryd.prog 89 #[.int .u8 c] w fun e w' => e = .returned (.int .i32 (nmd c)) ∧ Below w.heap.size w w' := by
  have HG := Aside0.mk hG
  clear hG
  have hcv : wrap32 c = c := by unfold wrap32; omega
  go_enter Tryd.func89, Tryd.ntmps89
  go_wp2
  go_loopw [6] (fun _ wr => ∃ pos : Nat, pos ≤ 13 ∧ wr = w.iter nmS pos ∧ Aside0 (nmd c = nmF c (nmL.drop pos) (mksT.drop pos))) (fun _ wr => 13 - wr.iterPos w.heap.size)
  case atStart => exact ⟨0, Nat.zero_le _, rfl, ⟨rfl⟩⟩
  case round =>
    obtain ⟨pos, hp, rfl, HE⟩ := hrel
    by_cases hlt : pos < 13
    · have hnx := nm_next w pos hlt
      have hcell0 : w.cell? ⟨2, 0 + pos, none⟩ = some (.int .i32 (mksT.getD pos 0)) := HG.out.2.2 pos _ (by
        have : pos < mksT.length := hlt
        simp [nums, List.getElem?_eq_getElem this])
      have hcell := ((iter_below w (pos + 1)).cell (World.block_lt_of_cell? w _ hcell0)).trans hcell0
      rw [Nat.zero_add] at hcell
      have he := HE.out
      have hd1 : nmL.drop pos = nmL.getD pos 0 :: nmL.drop (pos + 1) := by
        have h1 : pos < nmL.length := hlt
        rw [List.drop_eq_getElem_cons h1]
        simp [List.getElem?_eq_getElem h1]
      have hd2 : mksT.drop pos = mksT.getD pos 0 :: mksT.drop (pos + 1) := by
        have h1 : pos < mksT.length := hlt
        rw [List.drop_eq_getElem_cons h1]
        simp [List.getElem?_eq_getElem h1]
      rw [hd1, hd2, nmF] at he
      obtain ⟨a, ha⟩ : ∃ a, a = nmL.getD pos 0 := ⟨_, rfl⟩
      obtain ⟨m, hm⟩ : ∃ m, m = mksT.getD pos 0 := ⟨_, rfl⟩
      rw [← ha] at hnx he
      rw [← hm] at hcell he
      have NB := Aside0.mk (iter_below w (pos + 1))
      have MU := Aside0.mk (iter_pos w pos)
      have MU1 := Aside0.mk (iter_pos w (pos + 1))
      clear hcell0 hd1 hd2 ha hm
      by_cases hac : a = c
      · rw [if_pos hac] at he
        have hac2 : (a == c) = true := by simpa using hac
        have HE1 := Aside0.mk he
        clear he hac
        go_wp2
        go_ret
        exact ⟨by rw [HE1.out]; rfl, NB.out⟩
      · rw [if_neg hac] at he
        have hac2 : (a == c) = false := by simpa using hac
        have HE1 := Aside0.mk he
        clear he hac
        go_wp2
        go_roundw
        case rel => exact ⟨pos + 1, by omega, rfl, HE1⟩
        case measure => rw [MU.out, MU1.out]; omega
    · obtain rfl : pos = 13 := by omega
      have hnx := fun ty => run_next_end (P := Tryd.prog) w nmS 13 ty (by decide)
      have HE1 := Aside0.mk (show nmd c = 0 from HE.out)
      have NB := Aside0.mk (iter_below w 13)
      go_wp2
      go_ret
      exact ⟨by rw [HE1.out]; rfl, NB.out⟩

abbrev latL : ByteArray := ⟨#[65, 65, 65, 65, 65, 65, 46, 67, 69, 69, 69, 69, 73, 73, 73, 73, 46, 78, 79, 79, 79, 79, 79, 46, 46, 85, 85, 85, 85, 89, 46, 46, 97, 97, 97, 97, 97, 97, 46, 99, 101, 101, 101, 101, 105, 105, 105, 105, 46, 110, 111, 111, 111, 111, 111, 46, 46, 117, 117, 117, 117, 121, 46, 121]⟩
abbrev latM : ByteArray := ⟨#[103, 97, 99, 116, 100, 114, 46, 101, 103, 97, 99, 100, 103, 97, 99, 100, 46, 116, 103, 97, 99, 116, 100, 46, 46, 103, 97, 99, 100, 97, 46, 46, 103, 97, 99, 116, 100, 114, 46, 101, 103, 97, 99, 100, 103, 97, 99, 100, 46, 116, 103, 97, 99, 116, 100, 46, 46, 103, 97, 99, 100, 97, 46, 100]⟩
abbrev morL : ByteArray := ⟨#[65, 97, 65, 97, 65, 97, 67, 99, 67, 99, 67, 99, 67, 99, 68, 100, 46, 46, 69, 101, 69, 101, 69, 101, 69, 101, 69, 101, 71, 103, 71, 103, 71, 103, 71, 103, 72, 104, 46, 46, 73, 105, 73, 105, 73, 105, 73, 105, 73, 46, 46, 46, 74, 106, 75, 107, 46, 76, 108, 76, 108, 76, 108, 46, 46, 46, 46, 78, 110, 78, 110, 78, 110, 46, 46, 46, 79, 111, 79, 111, 79, 111, 46, 46, 82, 114, 82, 114, 82, 114, 83, 115, 83, 115, 83, 115, 83, 115, 84, 116, 84, 116, 46, 46, 85, 117, 85, 117, 85, 117, 85, 117, 85, 117, 85, 117, 87, 119, 89, 121, 89, 90, 122, 90, 122, 90, 122, 46]⟩
abbrev morM : ByteArray := ⟨#[109, 109, 98, 98, 111, 111, 97, 97, 99, 99, 112, 112, 118, 118, 118, 118, 46, 46, 109, 109, 98, 98, 112, 112, 111, 111, 118, 118, 99, 99, 98, 98, 112, 112, 101, 101, 99, 99, 46, 46, 116, 116, 109, 109, 98, 98, 111, 111, 112, 46, 46, 46, 99, 99, 101, 101, 46, 97, 97, 101, 101, 118, 118, 46, 46, 46, 46, 97, 97, 101, 101, 118, 118, 46, 46, 46, 109, 109, 98, 98, 113, 113, 46, 46, 97, 97, 101, 101, 118, 118, 97, 97, 99, 99, 101, 101, 118, 118, 101, 101, 118, 118, 46, 46, 116, 116, 109, 109, 98, 98, 114, 114, 113, 113, 111, 111, 99, 99, 99, 99, 100, 97, 97, 112, 112, 118, 118, 46]⟩
def byt (s : ByteArray) (i : Nat) : Int := ((s.data.toList.getD i 0).toNat : Int)
theorem byt_range (s : ByteArray) (i : Nat) : 0 ≤ byt s i ∧ byt s i < 256 := by
  unfold byt
  have := UInt8.toNat_lt (s.data.toList.getD i 0)
  omega
def prsF (r : Int) : List (Int × Int × Int) → Int × Int × Int
  | [] => (0, 0, 0)
  | p :: t => if p.1 = r then (if p.2.2 = 0 then (p.2.1, 0, 1) else (p.2.1, p.2.2, 2)) else prsF r t
def ltr (L M : ByteArray) (i : Nat) : Int × Int × Int := if byt L i = 46 then (0, 0, 0) else (byt L i, nmd (byt M i), 2)
def pairU (r : Int) : Int × Int × Int :=
  if 44032 ≤ r ∧ r ≤ 55203 then (if (r - 44032) % 28 = 0 then (4352 + (r - 44032) / 588, 4449 + (r - 44032) % 588 / 28, 2) else (r - (r - 44032) % 28, 4519 + (r - 44032) % 28, 2))
  else if 256 ≤ r ∧ r < 384 then ltr morL morM (r - 256).toNat
  else if r < 192 ∨ 255 < r then prsF r prsT
  else ltr latL latM (r - 192).toNat
theorem idxS (s : ByteArray) (i : Nat) (h : i < s.size) (W : World) : (Instr.index 9 (.string s) (.int .i32 (i : Int))).run Tryd.prog W = .ok (.int .u8 (byt s i)) W := by
  rw [run_index_string W 9 s .i32 (i : Int) Tryd.underlying9, dif_pos ⟨by omega, by omega⟩]
  congr 2
  unfold byt
  have h1 : i < s.data.toList.length := by simpa using h
  simp only [Int.toNat_natCast, List.getD_eq_getElem?_getD, List.getElem?_eq_getElem h1, Option.getD_some]
  rfl
theorem iy0 : ∀ W : World, (Instr.index 106 (.agg (cells3 prsT).toArray) (.int .i64 0)).run Tryd.prog W = .ok (.agg #[.int .i32 (prsT.getD 0 (0, 0, 0)).1, .int .i32 (prsT.getD 0 (0, 0, 0)).2.1, .int .i32 (prsT.getD 0 (0, 0, 0)).2.2]) W := fun _ => by kernel_rfl
theorem iy1 : ∀ W : World, (Instr.index 106 (.agg (cells3 prsT).toArray) (.int .i64 1)).run Tryd.prog W = .ok (.agg #[.int .i32 (prsT.getD 1 (0, 0, 0)).1, .int .i32 (prsT.getD 1 (0, 0, 0)).2.1, .int .i32 (prsT.getD 1 (0, 0, 0)).2.2]) W := fun _ => by kernel_rfl
theorem iy2 : ∀ W : World, (Instr.index 106 (.agg (cells3 prsT).toArray) (.int .i64 2)).run Tryd.prog W = .ok (.agg #[.int .i32 (prsT.getD 2 (0, 0, 0)).1, .int .i32 (prsT.getD 2 (0, 0, 0)).2.1, .int .i32 (prsT.getD 2 (0, 0, 0)).2.2]) W := fun _ => by kernel_rfl
theorem iy3 : ∀ W : World, (Instr.index 106 (.agg (cells3 prsT).toArray) (.int .i64 3)).run Tryd.prog W = .ok (.agg #[.int .i32 (prsT.getD 3 (0, 0, 0)).1, .int .i32 (prsT.getD 3 (0, 0, 0)).2.1, .int .i32 (prsT.getD 3 (0, 0, 0)).2.2]) W := fun _ => by kernel_rfl
theorem iy4 : ∀ W : World, (Instr.index 106 (.agg (cells3 prsT).toArray) (.int .i64 4)).run Tryd.prog W = .ok (.agg #[.int .i32 (prsT.getD 4 (0, 0, 0)).1, .int .i32 (prsT.getD 4 (0, 0, 0)).2.1, .int .i32 (prsT.getD 4 (0, 0, 0)).2.2]) W := fun _ => by kernel_rfl
theorem iy5 : ∀ W : World, (Instr.index 106 (.agg (cells3 prsT).toArray) (.int .i64 5)).run Tryd.prog W = .ok (.agg #[.int .i32 (prsT.getD 5 (0, 0, 0)).1, .int .i32 (prsT.getD 5 (0, 0, 0)).2.1, .int .i32 (prsT.getD 5 (0, 0, 0)).2.2]) W := fun _ => by kernel_rfl
theorem iy6 : ∀ W : World, (Instr.index 106 (.agg (cells3 prsT).toArray) (.int .i64 6)).run Tryd.prog W = .ok (.agg #[.int .i32 (prsT.getD 6 (0, 0, 0)).1, .int .i32 (prsT.getD 6 (0, 0, 0)).2.1, .int .i32 (prsT.getD 6 (0, 0, 0)).2.2]) W := fun _ => by kernel_rfl
theorem iy7 : ∀ W : World, (Instr.index 106 (.agg (cells3 prsT).toArray) (.int .i64 7)).run Tryd.prog W = .ok (.agg #[.int .i32 (prsT.getD 7 (0, 0, 0)).1, .int .i32 (prsT.getD 7 (0, 0, 0)).2.1, .int .i32 (prsT.getD 7 (0, 0, 0)).2.2]) W := fun _ => by kernel_rfl
theorem iy8 : ∀ W : World, (Instr.index 106 (.agg (cells3 prsT).toArray) (.int .i64 8)).run Tryd.prog W = .ok (.agg #[.int .i32 (prsT.getD 8 (0, 0, 0)).1, .int .i32 (prsT.getD 8 (0, 0, 0)).2.1, .int .i32 (prsT.getD 8 (0, 0, 0)).2.2]) W := fun _ => by kernel_rfl
theorem iy9 : ∀ W : World, (Instr.index 106 (.agg (cells3 prsT).toArray) (.int .i64 9)).run Tryd.prog W = .ok (.agg #[.int .i32 (prsT.getD 9 (0, 0, 0)).1, .int .i32 (prsT.getD 9 (0, 0, 0)).2.1, .int .i32 (prsT.getD 9 (0, 0, 0)).2.2]) W := fun _ => by kernel_rfl
theorem iy10 : ∀ W : World, (Instr.index 106 (.agg (cells3 prsT).toArray) (.int .i64 10)).run Tryd.prog W = .ok (.agg #[.int .i32 (prsT.getD 10 (0, 0, 0)).1, .int .i32 (prsT.getD 10 (0, 0, 0)).2.1, .int .i32 (prsT.getD 10 (0, 0, 0)).2.2]) W := fun _ => by kernel_rfl
theorem iy11 : ∀ W : World, (Instr.index 106 (.agg (cells3 prsT).toArray) (.int .i64 11)).run Tryd.prog W = .ok (.agg #[.int .i32 (prsT.getD 11 (0, 0, 0)).1, .int .i32 (prsT.getD 11 (0, 0, 0)).2.1, .int .i32 (prsT.getD 11 (0, 0, 0)).2.2]) W := fun _ => by kernel_rfl
theorem iy12 : ∀ W : World, (Instr.index 106 (.agg (cells3 prsT).toArray) (.int .i64 12)).run Tryd.prog W = .ok (.agg #[.int .i32 (prsT.getD 12 (0, 0, 0)).1, .int .i32 (prsT.getD 12 (0, 0, 0)).2.1, .int .i32 (prsT.getD 12 (0, 0, 0)).2.2]) W := fun _ => by kernel_rfl
theorem iy13 : ∀ W : World, (Instr.index 106 (.agg (cells3 prsT).toArray) (.int .i64 13)).run Tryd.prog W = .ok (.agg #[.int .i32 (prsT.getD 13 (0, 0, 0)).1, .int .i32 (prsT.getD 13 (0, 0, 0)).2.1, .int .i32 (prsT.getD 13 (0, 0, 0)).2.2]) W := fun _ => by kernel_rfl
theorem iy14 : ∀ W : World, (Instr.index 106 (.agg (cells3 prsT).toArray) (.int .i64 14)).run Tryd.prog W = .ok (.agg #[.int .i32 (prsT.getD 14 (0, 0, 0)).1, .int .i32 (prsT.getD 14 (0, 0, 0)).2.1, .int .i32 (prsT.getD 14 (0, 0, 0)).2.2]) W := fun _ => by kernel_rfl
theorem iy15 : ∀ W : World, (Instr.index 106 (.agg (cells3 prsT).toArray) (.int .i64 15)).run Tryd.prog W = .ok (.agg #[.int .i32 (prsT.getD 15 (0, 0, 0)).1, .int .i32 (prsT.getD 15 (0, 0, 0)).2.1, .int .i32 (prsT.getD 15 (0, 0, 0)).2.2]) W := fun _ => by kernel_rfl
theorem iy16 : ∀ W : World, (Instr.index 106 (.agg (cells3 prsT).toArray) (.int .i64 16)).run Tryd.prog W = .ok (.agg #[.int .i32 (prsT.getD 16 (0, 0, 0)).1, .int .i32 (prsT.getD 16 (0, 0, 0)).2.1, .int .i32 (prsT.getD 16 (0, 0, 0)).2.2]) W := fun _ => by kernel_rfl
theorem iy17 : ∀ W : World, (Instr.index 106 (.agg (cells3 prsT).toArray) (.int .i64 17)).run Tryd.prog W = .ok (.agg #[.int .i32 (prsT.getD 17 (0, 0, 0)).1, .int .i32 (prsT.getD 17 (0, 0, 0)).2.1, .int .i32 (prsT.getD 17 (0, 0, 0)).2.2]) W := fun _ => by kernel_rfl
theorem iy18 : ∀ W : World, (Instr.index 106 (.agg (cells3 prsT).toArray) (.int .i64 18)).run Tryd.prog W = .ok (.agg #[.int .i32 (prsT.getD 18 (0, 0, 0)).1, .int .i32 (prsT.getD 18 (0, 0, 0)).2.1, .int .i32 (prsT.getD 18 (0, 0, 0)).2.2]) W := fun _ => by kernel_rfl
theorem iy19 : ∀ W : World, (Instr.index 106 (.agg (cells3 prsT).toArray) (.int .i64 19)).run Tryd.prog W = .ok (.agg #[.int .i32 (prsT.getD 19 (0, 0, 0)).1, .int .i32 (prsT.getD 19 (0, 0, 0)).2.1, .int .i32 (prsT.getD 19 (0, 0, 0)).2.2]) W := fun _ => by kernel_rfl
theorem iy20 : ∀ W : World, (Instr.index 106 (.agg (cells3 prsT).toArray) (.int .i64 20)).run Tryd.prog W = .ok (.agg #[.int .i32 (prsT.getD 20 (0, 0, 0)).1, .int .i32 (prsT.getD 20 (0, 0, 0)).2.1, .int .i32 (prsT.getD 20 (0, 0, 0)).2.2]) W := fun _ => by kernel_rfl
theorem iy21 : ∀ W : World, (Instr.index 106 (.agg (cells3 prsT).toArray) (.int .i64 21)).run Tryd.prog W = .ok (.agg #[.int .i32 (prsT.getD 21 (0, 0, 0)).1, .int .i32 (prsT.getD 21 (0, 0, 0)).2.1, .int .i32 (prsT.getD 21 (0, 0, 0)).2.2]) W := fun _ => by kernel_rfl
theorem iy22 : ∀ W : World, (Instr.index 106 (.agg (cells3 prsT).toArray) (.int .i64 22)).run Tryd.prog W = .ok (.agg #[.int .i32 (prsT.getD 22 (0, 0, 0)).1, .int .i32 (prsT.getD 22 (0, 0, 0)).2.1, .int .i32 (prsT.getD 22 (0, 0, 0)).2.2]) W := fun _ => by kernel_rfl
theorem iy23 : ∀ W : World, (Instr.index 106 (.agg (cells3 prsT).toArray) (.int .i64 23)).run Tryd.prog W = .ok (.agg #[.int .i32 (prsT.getD 23 (0, 0, 0)).1, .int .i32 (prsT.getD 23 (0, 0, 0)).2.1, .int .i32 (prsT.getD 23 (0, 0, 0)).2.2]) W := fun _ => by kernel_rfl
theorem iy24 : ∀ W : World, (Instr.index 106 (.agg (cells3 prsT).toArray) (.int .i64 24)).run Tryd.prog W = .ok (.agg #[.int .i32 (prsT.getD 24 (0, 0, 0)).1, .int .i32 (prsT.getD 24 (0, 0, 0)).2.1, .int .i32 (prsT.getD 24 (0, 0, 0)).2.2]) W := fun _ => by kernel_rfl
theorem iy25 : ∀ W : World, (Instr.index 106 (.agg (cells3 prsT).toArray) (.int .i64 25)).run Tryd.prog W = .ok (.agg #[.int .i32 (prsT.getD 25 (0, 0, 0)).1, .int .i32 (prsT.getD 25 (0, 0, 0)).2.1, .int .i32 (prsT.getD 25 (0, 0, 0)).2.2]) W := fun _ => by kernel_rfl
theorem iy26 : ∀ W : World, (Instr.index 106 (.agg (cells3 prsT).toArray) (.int .i64 26)).run Tryd.prog W = .ok (.agg #[.int .i32 (prsT.getD 26 (0, 0, 0)).1, .int .i32 (prsT.getD 26 (0, 0, 0)).2.1, .int .i32 (prsT.getD 26 (0, 0, 0)).2.2]) W := fun _ => by kernel_rfl
theorem iy27 : ∀ W : World, (Instr.index 106 (.agg (cells3 prsT).toArray) (.int .i64 27)).run Tryd.prog W = .ok (.agg #[.int .i32 (prsT.getD 27 (0, 0, 0)).1, .int .i32 (prsT.getD 27 (0, 0, 0)).2.1, .int .i32 (prsT.getD 27 (0, 0, 0)).2.2]) W := fun _ => by kernel_rfl
theorem iy28 : ∀ W : World, (Instr.index 106 (.agg (cells3 prsT).toArray) (.int .i64 28)).run Tryd.prog W = .ok (.agg #[.int .i32 (prsT.getD 28 (0, 0, 0)).1, .int .i32 (prsT.getD 28 (0, 0, 0)).2.1, .int .i32 (prsT.getD 28 (0, 0, 0)).2.2]) W := fun _ => by kernel_rfl
theorem iy29 : ∀ W : World, (Instr.index 106 (.agg (cells3 prsT).toArray) (.int .i64 29)).run Tryd.prog W = .ok (.agg #[.int .i32 (prsT.getD 29 (0, 0, 0)).1, .int .i32 (prsT.getD 29 (0, 0, 0)).2.1, .int .i32 (prsT.getD 29 (0, 0, 0)).2.2]) W := fun _ => by kernel_rfl
theorem iy30 : ∀ W : World, (Instr.index 106 (.agg (cells3 prsT).toArray) (.int .i64 30)).run Tryd.prog W = .ok (.agg #[.int .i32 (prsT.getD 30 (0, 0, 0)).1, .int .i32 (prsT.getD 30 (0, 0, 0)).2.1, .int .i32 (prsT.getD 30 (0, 0, 0)).2.2]) W := fun _ => by kernel_rfl
theorem idxP (i : Nat) (hi : i < 31) : ∀ W : World, (Instr.index 106 (.agg (cells3 prsT).toArray) (.int .i64 (i : Int))).run Tryd.prog W = .ok (.agg #[.int .i32 (prsT.getD i (0, 0, 0)).1, .int .i32 (prsT.getD i (0, 0, 0)).2.1, .int .i32 (prsT.getD i (0, 0, 0)).2.2]) W := by
  intro W
  match i, hi with
  | 0, _ => exact iy0 W
  | 1, _ => exact iy1 W
  | 2, _ => exact iy2 W
  | 3, _ => exact iy3 W
  | 4, _ => exact iy4 W
  | 5, _ => exact iy5 W
  | 6, _ => exact iy6 W
  | 7, _ => exact iy7 W
  | 8, _ => exact iy8 W
  | 9, _ => exact iy9 W
  | 10, _ => exact iy10 W
  | 11, _ => exact iy11 W
  | 12, _ => exact iy12 W
  | 13, _ => exact iy13 W
  | 14, _ => exact iy14 W
  | 15, _ => exact iy15 W
  | 16, _ => exact iy16 W
  | 17, _ => exact iy17 W
  | 18, _ => exact iy18 W
  | 19, _ => exact iy19 W
  | 20, _ => exact iy20 W
  | 21, _ => exact iy21 W
  | 22, _ => exact iy22 W
  | 23, _ => exact iy23 W
  | 24, _ => exact iy24 W
  | 25, _ => exact iy25 W
  | 26, _ => exact iy26 W
  | 27, _ => exact iy27 W
  | 28, _ => exact iy28 W
  | 29, _ => exact iy29 W
  | 30, _ => exact iy30 W
  | n + 31, h => exact absurd h (by omega)
theorem infoP : (Tryd.prog.info? 106).map (·.size) = some (cells3 prsT).length := by kernel_rfl
def PairPost (w : World) (r : Int) (e : Ending) (w' : World) : Prop := e = .returned (.tuple #[.int .i32 (pairU r).1, .int .i32 (pairU r).2.1, .int .i64 (pairU r).2.2]) ∧ Below w.heap.size w w'
set_option maxRecDepth 100000 in
set_option maxHeartbeats 1000000 in
theorem PairSyl (w : World) (s : Nat) (hs : s ≤ 11171) : Calls Tryd.prog 75 #[.int .i32 (44032 + (s : Int))] w (PairPost w (44032 + (s : Int))) := by
  have d1 : decide ((44032 : Int) ≤ 44032 + (s : Int)) = true := decide_eq_true (by omega)
  have d2 : decide (44032 + (s : Int) ≤ 55203) = true := decide_eq_true (by omega)
  have t1 : (s : Int).tmod 28 = ((s % 28 : Nat) : Int) := by rw [Int.tmod_eq_emod_of_nonneg (by omega)]; omega
  have t2 : (s : Int).tmod 588 = ((s % 588 : Nat) : Int) := by rw [Int.tmod_eq_emod_of_nonneg (by omega)]; omega
  have t3 : (s : Int).tdiv 588 = ((s / 588 : Nat) : Int) := by rw [Int.tdiv_eq_ediv_of_nonneg (by omega)]; omega
  have t4 : ((s % 588 : Nat) : Int).tdiv 28 = ((s % 588 / 28 : Nat) : Int) := by rw [Int.tdiv_eq_ediv_of_nonneg (by omega)]; omega
  have e1 : 44032 + (s : Int) - 44032 = (s : Int) := by omega
  have b1 : s / 588 ≤ 18 := by omega
  have b2 : s % 588 / 28 ≤ 20 := by omega
  have b3 : s % 28 ≤ 27 := by omega
  obtain ⟨x1, hx1⟩ : ∃ x, x = s % 28 := ⟨_, rfl⟩
  obtain ⟨x2, hx2⟩ : ∃ x, x = s % 588 := ⟨_, rfl⟩
  obtain ⟨x3, hx3⟩ : ∃ x, x = s / 588 := ⟨_, rfl⟩
  rw [← hx1] at t1 b3
  rw [← hx2] at t2 t4 b2
  rw [← hx3] at t3 b1
  obtain ⟨x4, hx4⟩ : ∃ x, x = x2 / 28 := ⟨_, rfl⟩
  rw [← hx4] at t4 b2
  have hP : pairU (44032 + (s : Int)) = if x1 = 0 then (4352 + (x3 : Int), 4449 + (x4 : Int), 2) else (44032 + (s : Int) - (x1 : Int), 4519 + (x1 : Int), 2) := by
    unfold pairU
    rw [if_pos ⟨by omega, by omega⟩, e1]
    by_cases h : x1 = 0
    · rw [if_pos (by omega), if_pos h]
      congr 1
      · omega
      · congr 1; omega
    · rw [if_neg (by omega), if_neg h]
      congr 1
      · omega
      · congr 1; omega
  have HP := Aside0.mk hP
  clear hP hx1 hx2 hx3 hx4
  by_cases h : x1 = 0
  · subst h
    go_enter Tryd.func75, Tryd.ntmps75
    go_wp2
    go_ret3
    exact ⟨by rw [HP.out]; rfl, Below.refl _ _⟩
  · have h0 : ((x1 : Int) == 0) = false := by simp; omega
    go_enter Tryd.func75, Tryd.ntmps75
    go_wp2
    go_ret3
    exact ⟨by rw [HP.out, if_neg h]; rfl, Below.refl _ _⟩
set_option maxRecDepth 100000 in
set_option maxHeartbeats 1000000 in
theorem PairLat (w : World) (hG : G w) (i : Nat) (hi : i < 64) : Calls Tryd.prog 75 #[.int .i32 (192 + (i : Int))] w (PairPost w (192 + (i : Int))) := by
  have HG := Aside0.mk hG
  clear hG
  have d1 : decide ((44032 : Int) ≤ 192 + (i : Int)) = false := decide_eq_false (by omega)
  have d2 : decide ((256 : Int) ≤ 192 + (i : Int)) = false := decide_eq_false (by omega)
  have d3 : decide (192 + (i : Int) < 192) = false := decide_eq_false (by omega)
  have d4 : decide ((255 : Int) < 192 + (i : Int)) = false := decide_eq_false (by omega)
  have e1 : 192 + (i : Int) - 192 = (i : Int) := by omega
  have hP : pairU (192 + (i : Int)) = ltr latL latM i := by
    unfold pairU
    rw [if_neg (by omega), if_neg (by omega), if_neg (by omega), e1, Int.toNat_natCast]
  have hix := idxS latL i hi
  have hiy := idxS latM i hi
  have hmr := byt_range latM i
  have har := byt_range latL i
  obtain ⟨a, ha⟩ : ∃ a, a = byt latL i := ⟨_, rfl⟩
  obtain ⟨m, hm⟩ : ∃ m, m = byt latM i := ⟨_, rfl⟩
  rw [← ha] at hix har
  rw [← hm] at hiy hmr
  have hwa : IntKind.i32.wrap a = a := by rw [IntKind.wrap_i32]; omega
  unfold latL at hix
  unfold latM at hiy
  by_cases h : a = 46
  · have h0 : (a == 46) = true := by simpa using h
    have HP := Aside0.mk (show pairU (192 + (i : Int)) = (0, 0, 0) by rw [hP]; unfold ltr; rw [if_pos (by rw [← ha]; exact h)])
    clear hP ha h hm
    go_enter Tryd.func75, Tryd.ntmps75
    go_wp2
    go_ret3
    exact ⟨by rw [HP.out]; rfl, Below.refl _ _⟩
  · have h0 : (a == 46) = false := by simpa using h
    have HP := Aside0.mk (show pairU (192 + (i : Int)) = (a, nmd m, 2) by rw [hP]; unfold ltr; rw [if_neg (by rw [← ha]; exact h), ← ha, ← hm])
    clear hP ha h hm
    go_enter Tryd.func75, Tryd.ntmps75
    go_upto_region 21 with (fail)
    refine wp_region_held_drew (S := fun W => Below w.heap.size w W) (by kernel_rfl) (((Drawn0.refl w).step 1).below) (fun hS => ?_)
    refine wpAnyH_take (i := 0) (oi := { dst := some 78, op := _, type := _, pos := _, after := _, guard := _ }) (v := .string latL) rfl (by kernel_rfl) (by kernel_rfl) (by kernel_rfl) (fun _ _ _ h => h) (Or.inl ⟨by rfl, fun W hW => ?_⟩) hS ?_
    · (go_simp)
    try simp only [Act.put, List.setIfInBounds_toArray, List.set_cons_zero, List.set_cons_succ]
    refine wpAnyH_take (i := 1) (oi := { dst := some 79, op := _, type := _, pos := _, after := _, guard := _ }) (v := .int .i32 (i : Int)) rfl (by kernel_rfl) (by kernel_rfl) (by kernel_rfl) (fun _ _ _ h => h) (Or.inl ⟨by rfl, fun W hW => ?_⟩) hS ?_
    · (go_simp)
    try simp only [Act.put, List.setIfInBounds_toArray, List.set_cons_zero, List.set_cons_succ]
    refine wpAnyH_take (i := 2) (oi := { dst := some 80, op := _, type := _, pos := _, after := _, guard := _ }) (v := .int .u8 a) rfl (by kernel_rfl) (by kernel_rfl) (by kernel_rfl) (fun _ _ _ h => h) (Or.inl ⟨by rfl, fun W hW => ?_⟩) hS ?_
    · (have h := hix W; go_simp)
    try simp only [Act.put, List.setIfInBounds_toArray, List.set_cons_zero, List.set_cons_succ]
    refine wpAnyH_take (i := 3) (oi := { dst := some 81, op := _, type := _, pos := _, after := _, guard := _ }) (v := .int .i32 a) rfl (by kernel_rfl) (by kernel_rfl) (by kernel_rfl) (fun _ _ _ h => h) (Or.inl ⟨by rfl, fun W hW => ?_⟩) hS ?_
    · (go_simp)
    try simp only [Act.put, List.setIfInBounds_toArray, List.set_cons_zero, List.set_cons_succ]
    refine wpAnyH_take (i := 4) (oi := { dst := some 82, op := _, type := _, pos := _, after := _, guard := _ }) (v := .string latM) rfl (by kernel_rfl) (by kernel_rfl) (by kernel_rfl) (fun _ _ _ h => h) (Or.inl ⟨by rfl, fun W hW => ?_⟩) hS ?_
    · (go_simp)
    try simp only [Act.put, List.setIfInBounds_toArray, List.set_cons_zero, List.set_cons_succ]
    refine wpAnyH_take (i := 5) (oi := { dst := some 83, op := _, type := _, pos := _, after := _, guard := _ }) (v := .int .i32 (i : Int)) rfl (by kernel_rfl) (by kernel_rfl) (by kernel_rfl) (fun _ _ _ h => h) (Or.inl ⟨by rfl, fun W hW => ?_⟩) hS ?_
    · (go_simp)
    try simp only [Act.put, List.setIfInBounds_toArray, List.set_cons_zero, List.set_cons_succ]
    refine wpAnyH_take (i := 6) (oi := { dst := some 84, op := _, type := _, pos := _, after := _, guard := _ }) (v := .int .u8 m) rfl (by kernel_rfl) (by kernel_rfl) (by kernel_rfl) (fun _ _ _ h => h) (Or.inl ⟨by rfl, fun W hW => ?_⟩) hS ?_
    · (have h := hiy W; go_simp)
    try simp only [Act.put, List.setIfInBounds_toArray, List.set_cons_zero, List.set_cons_succ]
    refine wpAnyH_ready (rs := [7]) (by kernel_rfl) (by simp) ?_
    refine AllReadyH.cons (o := { dst := some 85, op := _, type := _, pos := _, after := _, guard := _ }) rfl (fun K hK => ?_) AllReadyH.nil
    go_simp
    (go_at_call 89)
    refine (NamedP w.drew (HG.out.below hS) m hmr).mono ?_
    rintro e w5 ⟨rfl, p1⟩
    have hS2 := below_then hS hS.size p1
    go_wp2_with fail
    refine hK.out _ _ hS2 (fun hS3 => ?_)
    clear hK K hS p1 hS3
    have hS := hS2
    clear hS2
    try simp only [Act.put, List.setIfInBounds_toArray, List.set_cons_zero, List.set_cons_succ]
    refine wpAnyH_take (i := 8) (oi := { dst := some 2, op := _, type := _, pos := _, after := _, guard := _ }) (v := .int .i32 a) rfl (by kernel_rfl) (by kernel_rfl) (by kernel_rfl) (fun _ _ _ h => h) (Or.inl ⟨by rfl, fun W hW => ?_⟩) hS ?_
    · (go_simp)
    try simp only [Act.put, List.setIfInBounds_toArray, List.set_cons_zero, List.set_cons_succ]
    refine wpAnyH_take (i := 9) (oi := { dst := some 3, op := _, type := _, pos := _, after := _, guard := _ }) (v := .int .i32 (nmd m)) rfl (by kernel_rfl) (by kernel_rfl) (by kernel_rfl) (fun _ _ _ h => h) (Or.inl ⟨by rfl, fun W hW => ?_⟩) hS ?_
    · (go_simp)
    try simp only [Act.put, List.setIfInBounds_toArray, List.set_cons_zero, List.set_cons_succ]
    refine wpAnyH_take (i := 10) (oi := { dst := some 4, op := _, type := _, pos := _, after := _, guard := _ }) (v := .int .i64 2) rfl (by kernel_rfl) (by kernel_rfl) (by kernel_rfl) (fun _ _ _ h => h) (Or.inl ⟨by rfl, fun W hW => ?_⟩) hS ?_
    · (go_simp)
    try simp only [Act.put, List.setIfInBounds_toArray, List.set_cons_zero, List.set_cons_succ]
    refine wpAnyH_done (by kernel_rfl) ?_ _
    go_wp2
    go_ret3
    exact ⟨by rw [HP.out]; rfl, hS⟩
set_option maxRecDepth 100000 in
set_option maxHeartbeats 1000000 in
theorem PairMor (w : World) (hG : G w) (i : Nat) (hi : i < 128) : Calls Tryd.prog 75 #[.int .i32 (256 + (i : Int))] w (PairPost w (256 + (i : Int))) := by
  have HG := Aside0.mk hG
  clear hG
  have d1 : decide ((44032 : Int) ≤ 256 + (i : Int)) = false := decide_eq_false (by omega)
  have d2 : decide ((256 : Int) ≤ 256 + (i : Int)) = true := decide_eq_true (by omega)
  have d3 : decide (256 + (i : Int) < 384) = true := decide_eq_true (by omega)
  have e1 : 256 + (i : Int) - 256 = (i : Int) := by omega
  have hP : pairU (256 + (i : Int)) = ltr morL morM i := by
    unfold pairU
    rw [if_neg (by omega), if_pos (by omega), e1, Int.toNat_natCast]
  have hix := idxS morL i hi
  have hiy := idxS morM i hi
  have hmr := byt_range morM i
  have har := byt_range morL i
  obtain ⟨a, ha⟩ : ∃ a, a = byt morL i := ⟨_, rfl⟩
  obtain ⟨m, hm⟩ : ∃ m, m = byt morM i := ⟨_, rfl⟩
  rw [← ha] at hix har
  rw [← hm] at hiy hmr
  have hwa : IntKind.i32.wrap a = a := by rw [IntKind.wrap_i32]; omega
  unfold morL at hix
  unfold morM at hiy
  by_cases h : a = 46
  · have h0 : (a == 46) = true := by simpa using h
    have HP := Aside0.mk (show pairU (256 + (i : Int)) = (0, 0, 0) by rw [hP]; unfold ltr; rw [if_pos (by rw [← ha]; exact h)])
    clear hP ha h hm
    go_enter Tryd.func75, Tryd.ntmps75
    go_wp2
    go_ret3
    exact ⟨by rw [HP.out]; rfl, Below.refl _ _⟩
  · have h0 : (a == 46) = false := by simpa using h
    have HP := Aside0.mk (show pairU (256 + (i : Int)) = (a, nmd m, 2) by rw [hP]; unfold ltr; rw [if_neg (by rw [← ha]; exact h), ← ha, ← hm])
    clear hP ha h hm
    go_enter Tryd.func75, Tryd.ntmps75
    go_upto_region 21 with (fail)
    refine wp_region_held_drew (S := fun W => Below w.heap.size w W) (by kernel_rfl) (((Drawn0.refl w).step 1).below) (fun hS => ?_)
    refine wpAnyH_take (i := 0) (oi := { dst := some 78, op := _, type := _, pos := _, after := _, guard := _ }) (v := .string morL) rfl (by kernel_rfl) (by kernel_rfl) (by kernel_rfl) (fun _ _ _ h => h) (Or.inl ⟨by rfl, fun W hW => ?_⟩) hS ?_
    · (go_simp)
    try simp only [Act.put, List.setIfInBounds_toArray, List.set_cons_zero, List.set_cons_succ]
    refine wpAnyH_take (i := 1) (oi := { dst := some 79, op := _, type := _, pos := _, after := _, guard := _ }) (v := .int .i32 (i : Int)) rfl (by kernel_rfl) (by kernel_rfl) (by kernel_rfl) (fun _ _ _ h => h) (Or.inl ⟨by rfl, fun W hW => ?_⟩) hS ?_
    · (go_simp)
    try simp only [Act.put, List.setIfInBounds_toArray, List.set_cons_zero, List.set_cons_succ]
    refine wpAnyH_take (i := 2) (oi := { dst := some 80, op := _, type := _, pos := _, after := _, guard := _ }) (v := .int .u8 a) rfl (by kernel_rfl) (by kernel_rfl) (by kernel_rfl) (fun _ _ _ h => h) (Or.inl ⟨by rfl, fun W hW => ?_⟩) hS ?_
    · (have h := hix W; go_simp)
    try simp only [Act.put, List.setIfInBounds_toArray, List.set_cons_zero, List.set_cons_succ]
    refine wpAnyH_take (i := 3) (oi := { dst := some 81, op := _, type := _, pos := _, after := _, guard := _ }) (v := .int .i32 a) rfl (by kernel_rfl) (by kernel_rfl) (by kernel_rfl) (fun _ _ _ h => h) (Or.inl ⟨by rfl, fun W hW => ?_⟩) hS ?_
    · (go_simp)
    try simp only [Act.put, List.setIfInBounds_toArray, List.set_cons_zero, List.set_cons_succ]
    refine wpAnyH_take (i := 4) (oi := { dst := some 82, op := _, type := _, pos := _, after := _, guard := _ }) (v := .string morM) rfl (by kernel_rfl) (by kernel_rfl) (by kernel_rfl) (fun _ _ _ h => h) (Or.inl ⟨by rfl, fun W hW => ?_⟩) hS ?_
    · (go_simp)
    try simp only [Act.put, List.setIfInBounds_toArray, List.set_cons_zero, List.set_cons_succ]
    refine wpAnyH_take (i := 5) (oi := { dst := some 83, op := _, type := _, pos := _, after := _, guard := _ }) (v := .int .i32 (i : Int)) rfl (by kernel_rfl) (by kernel_rfl) (by kernel_rfl) (fun _ _ _ h => h) (Or.inl ⟨by rfl, fun W hW => ?_⟩) hS ?_
    · (go_simp)
    try simp only [Act.put, List.setIfInBounds_toArray, List.set_cons_zero, List.set_cons_succ]
    refine wpAnyH_take (i := 6) (oi := { dst := some 84, op := _, type := _, pos := _, after := _, guard := _ }) (v := .int .u8 m) rfl (by kernel_rfl) (by kernel_rfl) (by kernel_rfl) (fun _ _ _ h => h) (Or.inl ⟨by rfl, fun W hW => ?_⟩) hS ?_
    · (have h := hiy W; go_simp)
    try simp only [Act.put, List.setIfInBounds_toArray, List.set_cons_zero, List.set_cons_succ]
    refine wpAnyH_ready (rs := [7]) (by kernel_rfl) (by simp) ?_
    refine AllReadyH.cons (o := { dst := some 85, op := _, type := _, pos := _, after := _, guard := _ }) rfl (fun K hK => ?_) AllReadyH.nil
    go_simp
    (go_at_call 89)
    refine (NamedP w.drew (HG.out.below hS) m hmr).mono ?_
    rintro e w5 ⟨rfl, p1⟩
    have hS2 := below_then hS hS.size p1
    go_wp2_with fail
    refine hK.out _ _ hS2 (fun hS3 => ?_)
    clear hK K hS p1 hS3
    have hS := hS2
    clear hS2
    try simp only [Act.put, List.setIfInBounds_toArray, List.set_cons_zero, List.set_cons_succ]
    refine wpAnyH_take (i := 8) (oi := { dst := some 2, op := _, type := _, pos := _, after := _, guard := _ }) (v := .int .i32 a) rfl (by kernel_rfl) (by kernel_rfl) (by kernel_rfl) (fun _ _ _ h => h) (Or.inl ⟨by rfl, fun W hW => ?_⟩) hS ?_
    · (go_simp)
    try simp only [Act.put, List.setIfInBounds_toArray, List.set_cons_zero, List.set_cons_succ]
    refine wpAnyH_take (i := 9) (oi := { dst := some 3, op := _, type := _, pos := _, after := _, guard := _ }) (v := .int .i32 (nmd m)) rfl (by kernel_rfl) (by kernel_rfl) (by kernel_rfl) (fun _ _ _ h => h) (Or.inl ⟨by rfl, fun W hW => ?_⟩) hS ?_
    · (go_simp)
    try simp only [Act.put, List.setIfInBounds_toArray, List.set_cons_zero, List.set_cons_succ]
    refine wpAnyH_take (i := 10) (oi := { dst := some 4, op := _, type := _, pos := _, after := _, guard := _ }) (v := .int .i64 2) rfl (by kernel_rfl) (by kernel_rfl) (by kernel_rfl) (fun _ _ _ h => h) (Or.inl ⟨by rfl, fun W hW => ?_⟩) hS ?_
    · (go_simp)
    try simp only [Act.put, List.setIfInBounds_toArray, List.set_cons_zero, List.set_cons_succ]
    refine wpAnyH_done (by kernel_rfl) ?_ _
    go_wp2
    go_ret3
    exact ⟨by rw [HP.out]; rfl, hS⟩
set_option maxRecDepth 100000 in
set_option maxHeartbeats 1000000 in
theorem PairTab (w : World) (hG : G w) (r : Int) (hr5 : -2147483648 ≤ r ∧ r ≤ 2147483647) (h1 : ¬ (44032 ≤ r ∧ r ≤ 55203)) (h2 : ¬ (256 ≤ r ∧ r < 384)) (h3 : r < 192 ∨ 255 < r) : Calls Tryd.prog 75 #[.int .i32 r] w (PairPost w r) := by
  have hP : pairU r = prsF r prsT := by unfold pairU; rw [if_neg h1, if_neg h2, if_pos h3]
  obtain ⟨tl, htl⟩ : ∃ tl, tl = cells3 prsT := ⟨_, rfl⟩
  have HT := Aside0.mk (show w.rangeAt 1 0 tl by rw [htl]; exact hG.2.1)
  have HI := Aside0.mk (show (Tryd.prog.info? 106).map (·.size) = some tl.length by rw [htl]; exact infoP)
  have HX := Aside0.mk (show ∀ i : Nat, i < 31 → ∀ W : World, (Instr.index 106 (.agg tl.toArray) (.int .i64 (i : Int))).run Tryd.prog W = .ok (.agg #[.int .i32 (prsT.getD i (0, 0, 0)).1, .int .i32 (prsT.getD i (0, 0, 0)).2.1, .int .i32 (prsT.getD i (0, 0, 0)).2.2]) W by rw [htl]; exact idxP)
  have HP := Aside0.mk hP
  clear hG htl hP
  have hu43 := Tryd.underlying99
  have hcase : r < 192 ∨ (384 ≤ r ∧ r < 44032) ∨ 55203 < r := by omega
  clear h1 h2 h3
  rcases hcase with h1 | ⟨h1, h2⟩ | h1
  · have d1 : decide (44032 ≤ r) = false := decide_eq_false (by omega)
    have d2 : decide (256 ≤ r) = false := decide_eq_false (by omega)
    have d3 : decide (r < 192) = true := decide_eq_true (by omega)
    go_enter Tryd.func75, Tryd.ntmps75
    go_wp2_with (refine wpList_load_mid rfl 106 (.global 1) rfl 1 0 rfl tl _ HT.out Tryd.underlying106 rfl HI.out ?_)
    go_loopw [57] (fun iv wr => ∃ i : Nat, i ≤ 31 ∧ iv = .int .i64 i ∧ Aside0 (pairU r = prsF r (prsT.drop i)) ∧ Aside0 (Below w.heap.size w wr)) (fun iv _ => 31 - (intOf iv).toNat)
    case atStart => exact ⟨0, Nat.zero_le _, rfl, ⟨HP.out⟩, ⟨Below.refl _ _⟩⟩
    case round =>
      obtain ⟨i, hi, rfl, HE, HB⟩ := hrel
      by_cases hlt : i < 31
      · have hd : decide ((i : Int) < 31) = true := decide_eq_true (by omega)
        have hix := HX.out i hlt
        have he := HE.out
        have hdr : prsT.drop i = prsT.getD i (0, 0, 0) :: prsT.drop (i + 1) := by
          have h1 : i < prsT.length := hlt
          rw [List.drop_eq_getElem_cons h1, List.getD_eq_getElem?_getD, List.getElem?_eq_getElem h1]
          rfl
        rw [hdr, prsF] at he
        obtain ⟨⟨a, b, c⟩, hp⟩ : ∃ p, p = prsT.getD i (0, 0, 0) := ⟨_, rfl⟩
        rw [← hp] at hix he
        simp only at hix he
        clear hp hdr
        have NB := Aside0.mk (show Below w.heap.size w (wr.alloc (.cells #[.int .i32 a, .int .i32 b, .int .i32 c] 99)) from below_then HB.out HB.out.size (below_alloc (Below.refl _ _) _))
        by_cases ha : a = r
        · have ha1 : (a == r) = true := by simpa using ha
          rw [if_pos ha] at he
          by_cases hc : c = 0
          · have hc1 : (c == 0) = true := by simpa using hc
            rw [if_pos hc] at he
            have HE1 := Aside0.mk he
            clear he ha hc
            go_wp2
            go_ret3
            exact ⟨by rw [HE1.out]; rfl, NB.out⟩
          · have hc1 : (c == 0) = false := by simpa using hc
            rw [if_neg hc] at he
            have HE1 := Aside0.mk he
            clear he ha hc
            go_wp2
            go_quiet (fail)
            go_wp2
            go_ret3
            exact ⟨by rw [HE1.out]; rfl, below_then NB.out NB.out.size ((Drawn0.refl _).step nq).below⟩
        · have ha1 : (a == r) = false := by simpa using ha
          rw [if_neg ha] at he
          have HE1 := Aside0.mk he
          clear he ha
          go_wp2
          go_roundw
          case rel => exact ⟨i + 1, by omega, by go_num, HE1, NB⟩
          case measure => simp [intOf]; omega
      · have hd : decide ((i : Int) < 31) = false := decide_eq_false (by omega)
        obtain rfl : i = 31 := by omega
        have HE1 := Aside0.mk (show pairU r = (0, 0, 0) from HE.out)
        go_wp2
        go_ret3
        exact ⟨by rw [HE1.out]; rfl, HB.out⟩
  · have d1 : decide (44032 ≤ r) = false := decide_eq_false (by omega)
    have d2 : decide (256 ≤ r) = true := decide_eq_true (by omega)
    have d3 : decide (r < 384) = false := decide_eq_false (by omega)
    have d4 : decide (r < 192) = false := decide_eq_false (by omega)
    have d5 : decide (255 < r) = true := decide_eq_true (by omega)
    go_enter Tryd.func75, Tryd.ntmps75
    go_wp2_with (refine wpList_load_mid rfl 106 (.global 1) rfl 1 0 rfl tl _ HT.out Tryd.underlying106 rfl HI.out ?_)
    go_loopw [57] (fun iv wr => ∃ i : Nat, i ≤ 31 ∧ iv = .int .i64 i ∧ Aside0 (pairU r = prsF r (prsT.drop i)) ∧ Aside0 (Below w.heap.size w wr)) (fun iv _ => 31 - (intOf iv).toNat)
    case atStart => exact ⟨0, Nat.zero_le _, rfl, ⟨HP.out⟩, ⟨Below.refl _ _⟩⟩
    case round =>
      obtain ⟨i, hi, rfl, HE, HB⟩ := hrel
      by_cases hlt : i < 31
      · have hd : decide ((i : Int) < 31) = true := decide_eq_true (by omega)
        have hix := HX.out i hlt
        have he := HE.out
        have hdr : prsT.drop i = prsT.getD i (0, 0, 0) :: prsT.drop (i + 1) := by
          have h1 : i < prsT.length := hlt
          rw [List.drop_eq_getElem_cons h1, List.getD_eq_getElem?_getD, List.getElem?_eq_getElem h1]
          rfl
        rw [hdr, prsF] at he
        obtain ⟨⟨a, b, c⟩, hp⟩ : ∃ p, p = prsT.getD i (0, 0, 0) := ⟨_, rfl⟩
        rw [← hp] at hix he
        simp only at hix he
        clear hp hdr
        have NB := Aside0.mk (show Below w.heap.size w (wr.alloc (.cells #[.int .i32 a, .int .i32 b, .int .i32 c] 99)) from below_then HB.out HB.out.size (below_alloc (Below.refl _ _) _))
        by_cases ha : a = r
        · have ha1 : (a == r) = true := by simpa using ha
          rw [if_pos ha] at he
          by_cases hc : c = 0
          · have hc1 : (c == 0) = true := by simpa using hc
            rw [if_pos hc] at he
            have HE1 := Aside0.mk he
            clear he ha hc
            go_wp2
            go_ret3
            exact ⟨by rw [HE1.out]; rfl, NB.out⟩
          · have hc1 : (c == 0) = false := by simpa using hc
            rw [if_neg hc] at he
            have HE1 := Aside0.mk he
            clear he ha hc
            go_wp2
            go_quiet (fail)
            go_wp2
            go_ret3
            exact ⟨by rw [HE1.out]; rfl, below_then NB.out NB.out.size ((Drawn0.refl _).step nq).below⟩
        · have ha1 : (a == r) = false := by simpa using ha
          rw [if_neg ha] at he
          have HE1 := Aside0.mk he
          clear he ha
          go_wp2
          go_roundw
          case rel => exact ⟨i + 1, by omega, by go_num, HE1, NB⟩
          case measure => simp [intOf]; omega
      · have hd : decide ((i : Int) < 31) = false := decide_eq_false (by omega)
        obtain rfl : i = 31 := by omega
        have HE1 := Aside0.mk (show pairU r = (0, 0, 0) from HE.out)
        go_wp2
        go_ret3
        exact ⟨by rw [HE1.out]; rfl, HB.out⟩
  · have d1 : decide (44032 ≤ r) = true := decide_eq_true (by omega)
    have d0 : decide (r ≤ 55203) = false := decide_eq_false (by omega)
    have d2 : decide (256 ≤ r) = true := decide_eq_true (by omega)
    have d3 : decide (r < 384) = false := decide_eq_false (by omega)
    have d4 : decide (r < 192) = false := decide_eq_false (by omega)
    have d5 : decide (255 < r) = true := decide_eq_true (by omega)
    go_enter Tryd.func75, Tryd.ntmps75
    go_wp2_with (refine wpList_load_mid rfl 106 (.global 1) rfl 1 0 rfl tl _ HT.out Tryd.underlying106 rfl HI.out ?_)
    go_loopw [57] (fun iv wr => ∃ i : Nat, i ≤ 31 ∧ iv = .int .i64 i ∧ Aside0 (pairU r = prsF r (prsT.drop i)) ∧ Aside0 (Below w.heap.size w wr)) (fun iv _ => 31 - (intOf iv).toNat)
    case atStart => exact ⟨0, Nat.zero_le _, rfl, ⟨HP.out⟩, ⟨Below.refl _ _⟩⟩
    case round =>
      obtain ⟨i, hi, rfl, HE, HB⟩ := hrel
      by_cases hlt : i < 31
      · have hd : decide ((i : Int) < 31) = true := decide_eq_true (by omega)
        have hix := HX.out i hlt
        have he := HE.out
        have hdr : prsT.drop i = prsT.getD i (0, 0, 0) :: prsT.drop (i + 1) := by
          have h1 : i < prsT.length := hlt
          rw [List.drop_eq_getElem_cons h1, List.getD_eq_getElem?_getD, List.getElem?_eq_getElem h1]
          rfl
        rw [hdr, prsF] at he
        obtain ⟨⟨a, b, c⟩, hp⟩ : ∃ p, p = prsT.getD i (0, 0, 0) := ⟨_, rfl⟩
        rw [← hp] at hix he
        simp only at hix he
        clear hp hdr
        have NB := Aside0.mk (show Below w.heap.size w (wr.alloc (.cells #[.int .i32 a, .int .i32 b, .int .i32 c] 99)) from below_then HB.out HB.out.size (below_alloc (Below.refl _ _) _))
        by_cases ha : a = r
        · have ha1 : (a == r) = true := by simpa using ha
          rw [if_pos ha] at he
          by_cases hc : c = 0
          · have hc1 : (c == 0) = true := by simpa using hc
            rw [if_pos hc] at he
            have HE1 := Aside0.mk he
            clear he ha hc
            go_wp2
            go_ret3
            exact ⟨by rw [HE1.out]; rfl, NB.out⟩
          · have hc1 : (c == 0) = false := by simpa using hc
            rw [if_neg hc] at he
            have HE1 := Aside0.mk he
            clear he ha hc
            go_wp2
            go_quiet (fail)
            go_wp2
            go_ret3
            exact ⟨by rw [HE1.out]; rfl, below_then NB.out NB.out.size ((Drawn0.refl _).step nq).below⟩
        · have ha1 : (a == r) = false := by simpa using ha
          rw [if_neg ha] at he
          have HE1 := Aside0.mk he
          clear he ha
          go_wp2
          go_roundw
          case rel => exact ⟨i + 1, by omega, by go_num, HE1, NB⟩
          case measure => simp [intOf]; omega
      · have hd : decide ((i : Int) < 31) = false := decide_eq_false (by omega)
        obtain rfl : i = 31 := by omega
        have HE1 := Aside0.mk (show pairU r = (0, 0, 0) from HE.out)
        go_wp2
        go_ret3
        exact ⟨by rw [HE1.out]; rfl, HB.out⟩
theorem PairP (w : World) (hG : G w) (r : Int) (hr : -2147483648 ≤ r ∧ r ≤ 2147483647) : Calls Tryd.prog 75 #[.int .i32 r] w (PairPost w r) := by
  by_cases h1 : 44032 ≤ r ∧ r ≤ 55203
  · have := PairSyl w (r - 44032).toNat (by omega)
    rw [show 44032 + ((r - 44032).toNat : Int) = r by omega] at this
    exact this
  · by_cases h2 : 256 ≤ r ∧ r < 384
    · have := PairMor w hG (r - 256).toNat (by omega)
      rw [show 256 + ((r - 256).toNat : Int) = r by omega] at this
      exact this
    · by_cases h3 : r < 192 ∨ 255 < r
      · exact PairTab w hG r hr h1 h2 h3
      · have := PairLat w hG (r - 192).toNat (by omega)
        rw [show 192 + ((r - 192).toNat : Int) = r by omega] at this
        exact this
end Go.Proofs.YtiggjbclbdikmaaDoor.Vc
namespace Go.Proofs.YtiggjbclbdikmaaDoor.X
open Go.RowKit Go.Proofs.YtiggjbclbdikmaaDoorW.PrintWords
def ucd_Pair.f (a0 : Int) : Option (Int × Int × Int) := if -2147483648 ≤ a0 ∧ a0 ≤ 2147483647 then some (Vc.pairU a0) else none
theorem ucd_Pair.calls (a0 : Int) (r1 r2 r3 : Int) (w : World) (h : ucd_Pair.f a0 = some (r1, r2, r3)) (hG0 : Va.G w) : Calls Tryd.prog 75 #[.int .i32 a0] w fun e w' => e = .returned (.tuple #[.int .i32 r1, .int .i32 r2, .int .i64 r3]) ∧ Below w.heap.size w w' := by
  unfold ucd_Pair.f at h
  split at h
  · rename_i hr
    have e := Option.some.inj h
    have := Vc.PairP w hG0 a0 hr
    unfold Vc.PairPost at this
    rw [e] at this
    exact this
  · cases h
end Go.Proofs.YtiggjbclbdikmaaDoor.X

/-
  Full decompositions, plainly; ucd.Decompose walked.
-/
namespace Go.Proofs.YtiggjbclbdikmaaDoor.Vd
set_option linter.unusedVariables false
set_option linter.unusedSimpArgs false
open Go.RowKit Go.Proofs.YtiggjbclbdikmaaDoorW.PrintWords Go.Proofs.YtiggjbclbdikmaaDoor.Hp Go.Proofs.YtiggjbclbdikmaaDoor.Va Go.Proofs.YtiggjbclbdikmaaDoor.Vc

/-! plain -/
def decF : Nat → Int → List Int
  | 0, r => [r]
  | k + 1, r => if (pairU r).2.2 = 0 then [r] else if (pairU r).2.2 = 1 then decF k (pairU r).1 else decF k (pairU r).1 ++ decF k (pairU r).2.1
def okF : Nat → Int → Bool
  | 0, _ => false
  | k + 1, r => if (pairU r).2.2 = 0 then true else if (pairU r).2.2 = 1 then okF k (pairU r).1 else okF k (pairU r).1 && okF k (pairU r).2.1
def keys : List Int := (List.range 192).map (fun i : Nat => (192 : Int) + (i : Int)) ++ prsT.map (·.1)
theorem prsF_none (r : Int) : ∀ l : List (Int × Int × Int), r ∉ l.map (·.1) → prsF r l = (0, 0, 0)
  | [], _ => rfl
  | p :: t, h => by
    simp only [List.map_cons, List.mem_cons, not_or] at h
    rw [prsF, if_neg (fun e => h.1 e.symm), prsF_none r t h.2]
theorem pair_zero (r : Int) (hs : ¬ (44032 ≤ r ∧ r ≤ 55203)) (hk : r ∉ keys) : pairU r = (0, 0, 0) := by
  unfold keys at hk
  rw [List.mem_append, not_or] at hk
  have h1 : ¬ (192 ≤ r ∧ r < 384) := fun h => hk.1 (List.mem_map.2 ⟨(r - 192).toNat, List.mem_range.2 (by omega), by omega⟩)
  unfold pairU
  rw [if_neg hs, if_neg (by omega), if_pos (by omega)]
  exact prsF_none r _ hk.2
theorem syl_pair (s : Nat) (hs : s ≤ 11171) : pairU (44032 + (s : Int)) = if s % 28 = 0 then (4352 + ((s / 588 : Nat) : Int), 4449 + ((s % 588 / 28 : Nat) : Int), 2) else (44032 + (s : Int) - ((s % 28 : Nat) : Int), 4519 + ((s % 28 : Nat) : Int), 2) := by
  have e1 : 44032 + (s : Int) - 44032 = (s : Int) := by omega
  unfold pairU
  rw [if_pos ⟨by omega, by omega⟩, e1]
  by_cases h : s % 28 = 0
  · rw [if_pos (by omega), if_pos h]
    congr 1
  · rw [if_neg (by omega), if_neg h]
    congr 1
/-- Every number is a key, or a syllable, or it doesn't decompose. -/
theorem cases3 (r : Int) : r ∈ keys ∨ (∃ s : Nat, s ≤ 11171 ∧ r = 44032 + (s : Int)) ∨ pairU r = (0, 0, 0) := by
  by_cases hk : r ∈ keys
  · exact .inl hk
  · by_cases hs : 44032 ≤ r ∧ r ≤ 55203
    · exact .inr (.inl ⟨(r - 44032).toNat, by omega, by omega⟩)
    · exact .inr (.inr (pair_zero r hs hk))
theorem jamo_none : ∀ k ∈ keys, k < 4352 ∨ 4546 < k := by decide +kernel
theorem jamo_zero (r : Int) (h : 4352 ≤ r ∧ r ≤ 4546) : pairU r = (0, 0, 0) := pair_zero r (by omega) (fun hk => by have := jamo_none r hk; omega)
theorem keys_pair : ∀ k ∈ keys, (0 ≤ (pairU k).1 ∧ (pairU k).1 < 65536) ∧ (0 ≤ (pairU k).2.1 ∧ (pairU k).2.1 < 65536) ∧ (0 ≤ (pairU k).2.2 ∧ (pairU k).2.2 < 3) ∧ okF 4 k = true := by decide +kernel
theorem okF_zero (k : Nat) (r : Int) (h : pairU r = (0, 0, 0)) : okF (k + 1) r = true := by rw [okF, h]; rfl
theorem decF_zero (k : Nat) (r : Int) (h : pairU r = (0, 0, 0)) : decF k r = [r] := by cases k with
  | zero => rfl
  | succ k => rw [decF, h]; rfl
theorem syl_lv (s : Nat) (hs : s ≤ 11171) (ht : s % 28 = 0) (k : Nat) : okF (k + 2) (44032 + (s : Int)) = true ∧ decF (k + 1) (44032 + (s : Int)) = [4352 + ((s / 588 : Nat) : Int), 4449 + ((s % 588 / 28 : Nat) : Int)] := by
  have h := syl_pair s hs
  rw [if_pos ht] at h
  have z1 := jamo_zero (4352 + ((s / 588 : Nat) : Int)) (by omega)
  have z2 := jamo_zero (4449 + ((s % 588 / 28 : Nat) : Int)) (by omega)
  rw [okF, decF, h]
  simp only [okF_zero _ _ z1, okF_zero _ _ z2, decF_zero _ _ z1, decF_zero _ _ z2]
  exact ⟨rfl, rfl⟩
theorem syl_all (s : Nat) (hs : s ≤ 11171) (k : Nat) : okF (k + 3) (44032 + (s : Int)) = true ∧ decF (k + 2) (44032 + (s : Int)) = [4352 + ((s / 588 : Nat) : Int), 4449 + ((s % 588 / 28 : Nat) : Int)] ++ if s % 28 = 0 then [] else [4519 + ((s % 28 : Nat) : Int)] := by
  by_cases ht : s % 28 = 0
  · have := syl_lv s hs ht (k + 1)
    rw [if_pos ht, List.append_nil]
    exact this
  · have h := syl_pair s hs
    rw [if_neg ht] at h ⊢
    have h1 := syl_lv (s - s % 28) (by omega) (by omega) k
    have z2 := jamo_zero (4519 + ((s % 28 : Nat) : Int)) (by omega)
    rw [show 44032 + ((s - s % 28 : Nat) : Int) = 44032 + (s : Int) - ((s % 28 : Nat) : Int) by omega, show (s - s % 28) / 588 = s / 588 by omega, show (s - s % 28) % 588 / 28 = s % 588 / 28 by omega] at h1
    rw [okF, decF, h]
    simp only [h1.1, h1.2, okF_zero _ _ z2, decF_zero _ _ z2]
    exact ⟨rfl, rfl⟩
theorem okAll (r : Int) : okF 4 r = true := by
  rcases cases3 r with h | ⟨s, hs, rfl⟩ | h
  · exact (keys_pair r h).2.2.2
  · exact (syl_all s hs 1).1
  · exact okF_zero _ _ h
def decU (r : Int) : List Int := decF 4 r
theorem pair_range (r : Int) : (0 ≤ (pairU r).1 ∧ (pairU r).1 < 65536) ∧ (0 ≤ (pairU r).2.1 ∧ (pairU r).2.1 < 65536) ∧ (0 ≤ (pairU r).2.2 ∧ (pairU r).2.2 < 3) := by
  rcases cases3 r with h | ⟨s, hs, rfl⟩ | h
  · have := keys_pair r h
    exact ⟨this.1, this.2.1, this.2.2.1⟩
  · rw [syl_pair s hs]
    split <;> simp only <;> omega
  · rw [h]; simp
theorem decF_len : ∀ (k : Nat) (r : Int), (decF k r).length ≤ 2 ^ k
  | 0, _ => by simp [decF]
  | k + 1, r => by
    have h1 := decF_len k (pairU r).1
    have h2 := decF_len k (pairU r).2.1
    have h3 : 0 < 2 ^ k := Nat.two_pow_pos k
    rw [decF, Nat.pow_succ]
    split
    · simp; omega
    · split
      · omega
      · rw [List.length_append]; omega

/-! walked -/
abbrev K3 : Kd Int := Kd.int .i32
theorem info_3 : (Tryd.prog.info? 21).map (fun i => (i.zero, i.size, i.bytes)) = some (some (.int .i32 0), 1, 4) := by kernel_rfl
theorem K3_KM {w w' : World} {base : Nat} {ok : Nat → Prop} (x : Int) (cs : List Value) (h : K3.K w x cs) : K3.M w' base ok x cs := h
/-- A new row. -/
def NewR (w : World) (l : List Int) (e : Ending) (w' : World) : Prop := ∃ v, e = .returned v ∧ K3.R 21 w' w.heap.size (fun _ => True) v l ∧ Below w.heap.size w w'
theorem lit1 {w : World} {B : Nat} (hB : B ≤ w.heap.size) (a : Int) : K3.R 21 (w.alloc (.cells #[.int .i32 a] 21)) B (fun _ => True) (.slice (some ⟨w.heap.size, 0, none⟩) 1 1) [a] := by
  refine ⟨fun _ _ => trivial, [.int .i32 a], ?_, Reps.one (show Kd.M K3 _ _ _ a [.int .i32 a] from rfl) (Reps.none _ _)⟩
  have h2 := World.ownsRow_lit (base := B) (e := 21) (size := 1) w #[.int .i32 a] 1 hB (by decide) rfl
  exact h2
set_option maxRecDepth 100000 in
set_option maxHeartbeats 1000000 in
theorem DecF : ∀ (k : Nat) (_ : k ≤ 4) (w : World) (_ : G w) (r : Int) (_ : -2147483648 ≤ r ∧ r ≤ 2147483647) (_ : okF k r = true), Calls Tryd.prog 53 #[.int .i32 r] w (NewR w (decF k r)) := by
  intro k
  induction k with
  | zero => intro hk4 w hG r hr ho; exact absurd ho (by simp [okF])
  | succ k ih =>
    intro hk4 w hG r hr ho
    have HG := Aside0.mk hG
    have HO := Aside0.mk ho
    have HI := Aside0.mk (ih (by omega))
    have HR := Aside0.mk hr
    have HP := Aside0.mk (pair_range r)
    have HD := Aside0.mk (show decF (k + 1) r = if (pairU r).2.2 = 0 then [r] else if (pairU r).2.2 = 1 then decF k (pairU r).1 else decF k (pairU r).1 ++ decF k (pairU r).2.1 from rfl)
    have HO1 := Aside0.mk (show okF (k + 1) r = if (pairU r).2.2 = 0 then true else if (pairU r).2.2 = 1 then okF k (pairU r).1 else okF k (pairU r).1 && okF k (pairU r).2.1 from rfl)
    clear hG ho ih hr
    have hPP := PairP w HG.out r HR.out
    unfold PairPost at hPP
    obtain ⟨⟨a, b, n⟩, hp⟩ : ∃ p, p = pairU r := ⟨_, rfl⟩
    rw [← hp] at hPP HP HD HO1
    have HPP := Aside0.mk hPP
    clear hPP hp
    simp only at HPP HP HD HO1
    obtain ⟨HP⟩ := HP
    obtain ⟨⟨a0, a1⟩, ⟨b0, b1⟩, n0, n1⟩ := HP
    by_cases h0 : n = 0
    · subst h0
      rw [HD.out, if_pos rfl]
      clear HD HO1 HO
      go_enter Tryd.func53, Tryd.ntmps53
      go_wp2_with (first | (go_at_call 75; go_must (refine HPP.out.mono ?_; rintro e w1 ⟨rfl, p1⟩; have P1 := Aside0.mk p1; clear p1)))
      go_ret
      exact ⟨_, rfl, lit1 P1.out.size r, below_then P1.out P1.out.size (below_alloc (Below.refl _ _) _)⟩
    · by_cases h1 : n = 1
      · subst h1
        have e0 : ((1 : Int) == 0) = false := rfl
        rw [HD.out, if_neg (by decide), if_pos rfl]
        have HO2 := Aside0.mk (show okF k a = true by have h := HO1.out; rw [if_neg (by decide), if_pos rfl] at h; rw [← h]; exact HO.out)
        clear HD HO1 HO
        go_enter Tryd.func53, Tryd.ntmps53
        go_wp2_with (first | (go_at_call 75; go_must (refine HPP.out.mono ?_; rintro e w1 ⟨rfl, p1⟩; have P1 := Aside0.mk p1; clear p1)) | (go_at_call 53; go_must (refine (HI.out w1 (HG.out.below P1.out) a ⟨by omega, by omega⟩ HO2.out).mono ?_; rintro e w2 ⟨v2, rfl, r2, p2⟩; have R2 := Aside0.mk r2; have P2 := Aside0.mk p2; clear r2 p2)))
        go_ret
        exact ⟨_, rfl, Kd.R_lower R2.out P1.out.size, below_then P1.out P1.out.size P2.out⟩
      · have h2 : n = 2 := by omega
        subst h2
        rw [HD.out, if_neg (by decide), if_neg (by decide)]
        have HO2 := Aside0.mk (show okF k a = true ∧ okF k b = true by have h := HO1.out; rw [if_neg (by decide), if_neg (by decide)] at h; rw [← Bool.and_eq_true, ← h]; exact HO.out)
        clear HD HO1 HO
        have la := decF_len k a
        have lb := decF_len k b
        obtain ⟨x, hx⟩ : ∃ x, x = decF k a := ⟨_, rfl⟩
        obtain ⟨y, hy⟩ : ∃ y, y = decF k b := ⟨_, rfl⟩
        have HL := Aside0.mk (show x.length + y.length ≤ 1000 by rw [hx, hy]; have := Nat.pow_le_pow_right (n := 2) (by decide) (show k ≤ 4 by omega); omega)
        have HA := Aside0.mk (fun w2 h => HI.out w2 h a ⟨by omega, by omega⟩ HO2.out.1)
        have HB := Aside0.mk (fun w2 h => HI.out w2 h b ⟨by omega, by omega⟩ HO2.out.2)
        rw [← hx] at HA ⊢
        rw [← hy] at HB ⊢
        clear hx hy la lb
        go_enter Tryd.func53, Tryd.ntmps53
        go_wp2_with (first | (go_at_call 75; go_must (refine HPP.out.mono ?_; rintro e w1 ⟨rfl, p1⟩; have P1 := Aside0.mk p1; clear p1)) | (go_at_call 53; refine (HA.out w1 (HG.out.below P1.out)).mono ?_; rintro e w2 ⟨v2, rfl, r2, p2⟩; have R2 := Aside0.mk r2; have P2 := Aside0.mk (below_then P1.out P1.out.size p2); clear r2 p2 HA) | (go_at_call 53; go_must (refine (HB.out w2 (HG.out.below P2.out)).mono ?_; rintro e w3 ⟨v3, rfl, r3, p3⟩; obtain ⟨A3, c3, rfl, hc3, hC3⟩ := Kd.R_reads r3; have C3 := Aside0.mk hC3; have R3 := Aside0.mk (Kd.R_below (Kd.R_lower R2.out P1.out.size) p3); have P3 := Aside0.mk (below_then P2.out P2.out.size p3); clear r3 p3 hC3)) | (at_builtin; go_must (refine Kd.R_append_rows K3 (Rr := K3.K w3) (w0 := w) w.heap.size rfl (.tmp 22) (.tmp 24) 22 21 (.int .i32 0) 4 rfl Tryd.underlying22 info_3 rfl (by decide) (by decide) v2 x y A3 _ c3 (fun _ => True) (fun _ => False) rfl rfl R3.out C3.out (fun x cs h => K3_KM x cs h) (fun _ h => h.elim) (fun _ _ => trivial) P3.out P3.out.size ?hl ?hh)))
        case hl => have := HL.out; omega
        case hh =>
          intro v1 w4 hR hb4 hg4 hat4
          have R4 := Aside0.mk hR
          have P4 := Aside0.mk hb4
          clear hR hb4 hg4 hat4
          go_wp2
          go_ret
          exact ⟨_, rfl, R4.out, P4.out⟩
theorem DecP (w : World) (hG : G w) (r : Int) (hr : -2147483648 ≤ r ∧ r ≤ 2147483647) : Calls Tryd.prog 53 #[.int .i32 r] w (NewR w (decU r)) := DecF 4 (by decide) w hG r hr (okAll r)
end Go.Proofs.YtiggjbclbdikmaaDoor.Vd
namespace Go.Proofs.YtiggjbclbdikmaaDoor.X
open Go.RowKit Go.Proofs.YtiggjbclbdikmaaDoorW.PrintWords
def ucd_Decompose.f (a0 : Int) : Option (List Int) := if -2147483648 ≤ a0 ∧ a0 ≤ 2147483647 then some (Vd.decU a0) else none
theorem ucd_Decompose.calls (a0 : Int) (r : List Int) (w : World) (h : ucd_Decompose.f a0 = some r) (hG0 : Va.G w) : Calls Tryd.prog 53 #[.int .i32 a0] w fun e w' => ∃ v0_ : Value, e = .returned (v0_) ∧ Kd.R (Kd.int .i32) 21 w' w.heap.size (fun _ => True) v0_ r ∧ Below w.heap.size w w' := by
  unfold ucd_Decompose.f at h
  split at h
  · rename_i hr
    obtain rfl := Option.some.inj h
    exact Vd.DecP w hG0 a0 hr
  · cases h
end Go.Proofs.YtiggjbclbdikmaaDoor.X

/-
  norm.Former: New, Write, Close, Pending.
-/
namespace Go.Proofs.YtiggjbclbdikmaaDoor.Fr
set_option linter.unusedVariables false
set_option linter.unusedSimpArgs false
open Go.RowKit Go.Proofs.YtiggjbclbdikmaaDoorW.PrintWords Go.Proofs.YtiggjbclbdikmaaDoorW.PrintLast Go.Proofs.YtiggjbclbdikmaaDoorW.PrintMore Go.Proofs.YtiggjbclbdikmaaDoor.Hp Go.Proofs.YtiggjbclbdikmaaDoor.Va Go.Proofs.YtiggjbclbdikmaaDoor.Vd Go.Proofs.YtiggjbclbdikmaaDoor.Na Go.Proofs.YtiggjbclbdikmaaDoor.Nb Go.Proofs.YtiggjbclbdikmaaDoor.Nc Go.Proofs.YtiggjbclbdikmaaDoor.Ns Go.Proofs.YtiggjbclbdikmaaDoor.Ng Go.Proofs.YtiggjbclbdikmaaDoor.X

abbrev TF : Nat := 79
abbrev T3 : Nat := 21
abbrev K3 : Kd Int := Kd.int .i32
/-- How far a list is sure: behind its last starter. -/
def sure (l : List Int) : Nat := (l.reverse.dropWhile (fun x => cls x != 0)).length
theorem sure_of {l : List Int} {N : Nat} (hN : N ≤ l.length) (h : ∀ x ∈ l.drop N, cls x ≠ 0) (hz : N = 0 ∨ ∃ P z, l.take N = P ++ [z] ∧ cls z = 0) : sure l = N := by
  unfold sure
  have h1 : l.reverse = (l.drop N).reverse ++ (l.take N).reverse := by rw [← List.reverse_append, List.take_append_drop]
  rw [h1, List.dropWhile_append_of_pos (fun x hx => by simpa using h x (by simpa using hx))]
  rcases hz with rfl | ⟨P, z, h2, hz⟩
  · simp
  · have h3 : (l.take N).reverse = z :: P.reverse := by rw [h2]; simp
    rw [h3, List.dropWhile_cons_of_neg (by simp [hz]), ← h3, List.length_reverse, List.length_take]
    omega
theorem sure_spec (l : List Int) : sure l ≤ l.length ∧ (∀ x ∈ l.drop (sure l), cls x ≠ 0) ∧ (sure l = 0 ∨ ∃ P z, l.take (sure l) = P ++ [z] ∧ cls z = 0) := by
  obtain ⟨N, h1, h2, h3⟩ : ∃ N, N ≤ l.length ∧ (∀ x ∈ l.drop N, cls x ≠ 0) ∧ (N = 0 ∨ ∃ P z, l.take N = P ++ [z] ∧ cls z = 0) := by
    suffices h : ∀ n, n ≤ l.length → (∀ x ∈ l.drop n, cls x ≠ 0) → ∃ N, N ≤ l.length ∧ (∀ x ∈ l.drop N, cls x ≠ 0) ∧ (N = 0 ∨ ∃ P z, l.take N = P ++ [z] ∧ cls z = 0) from h l.length (Nat.le_refl _) (by simp)
    intro n
    induction n with
    | zero => exact fun h1 h2 => ⟨0, h1, h2, .inl rfl⟩
    | succ n ih =>
      intro h1 h2
      obtain ⟨y, -, h4, h5, -⟩ := split_at (S := l) (t := n) (by omega)
      by_cases hy : cls y = 0
      · exact ⟨n + 1, h1, h2, .inr ⟨_, y, h5, hy⟩⟩
      · refine ih (by omega) fun x hx => ?_
        rw [h4] at hx
        rcases List.mem_cons.1 hx with rfl | hx
        · exact hy
        · exact h2 x hx
  rw [sure_of h1 h2 h3]
  exact ⟨h1, h2, h3⟩

/-- A slice that lies whole at the front of a block. -/
def Row (w : World) (A : Option Addr) (c : Nat) (l : List Int) : Prop := (A = none ∧ l = [] ∧ c = 0) ∨ ∃ g post, A = some ⟨g, 0, none⟩ ∧ Reg w g [] post l ∧ l.length ≤ c ∧ c ≤ maxLen
theorem Row.C {w : World} {A : Option Addr} {c : Nat} {l : List Int} (h : Row w A c l) (hm : l.length ≤ 9223372036854775807) : K3.C w A l.length l := by
  refine rdC ⟨rfl, hm, fun hp => ?_⟩
  rcases h with ⟨_, rfl, _⟩ | ⟨g, post, rfl, hR, _, _⟩
  · simp at hp
  · refine ⟨_, rfl, fun j hj => ?_⟩
    have := hR.at_ j hj
    rw [add_plain]
    simpa using this
theorem OrdC (w : World) (hG : G w) (A : Option Addr) (c : Nat) (l : List Int) (h : Row w A c l) (h3 : ∀ ad, A = some ad → 3 ≤ ad.block) (n : Nat) (hn : n = l.length) (hn5 : n ≤ 1000000000000000) :
    Calls Tryd.prog 54 #[.slice A n c] w fun e w' => e = .returned (.slice A n c) ∧ Chg (fun b => ∃ ad, A = some ad ∧ b = ad.block) w w' ∧ Row w' A c (ordL l) := by
  rcases h with ⟨rfl, rfl, rfl⟩ | ⟨g, post, rfl, hR, hc, hm⟩
  · subst hn
    exact (OrdN w).mono fun e w' ⟨h1, h2⟩ => ⟨h1, h2.mono (fun _ _ h => h.elim), .inl ⟨rfl, rfl, rfl⟩⟩
  · refine (OrdP w hG g (h3 _ rfl) post l hR n c hn hn5 (by omega)).mono fun e w' ⟨h1, h2, h3⟩ => ⟨h1, h2.mono (fun k _ hk => ⟨_, rfl, hk⟩), .inr ⟨g, post, rfl, h3, ?_, hm⟩⟩
    rw [ordL_len]
    exact hc

/-- A former at block g: what it keeps back. -/
def IsForm (g base : Nat) (kept : List Int) (closed : Bool) (ok : Nat → Prop) (w : World) : Prop :=
  ∃ kv, w.heap[g]? = some (.cells #[kv, .bool closed] TF (0, 0)) ∧ base ≤ g ∧ ok g ∧ K3.R T3 w base (fun b => ok b ∧ b ≠ g) kv kept
section
variable {g base : Nat} {kept : List Int} {closed : Bool} {ok ok' : Nat → Prop} {w w1 : World}
theorem IsForm.mono (h : IsForm g base kept closed ok w) (hok : ∀ k, ok k → ok' k) : IsForm g base kept closed ok' w := by
  obtain ⟨kv, h1, h2, h3, h4⟩ := h
  exact ⟨kv, h1, h2, hok _ h3, Kd.R_mono h4 (fun b hb => ⟨hok _ hb.1, hb.2⟩)⟩
theorem IsForm.step (h : IsForm g base kept closed ok w) (hm : ∀ k, ok k → k < w.heap.size → w1.heap[k]? = w.heap[k]?) : IsForm g base kept closed ok w1 := by
  obtain ⟨kv, h1, h2, h3, h4⟩ := h
  exact ⟨kv, (hm g h3 (blk_lt h1)).trans h1, h2, h3, Kd.R_step h4 (fun b hb hlt => hm b hb.1 hlt)⟩
theorem IsForm.below (h : IsForm g base kept closed ok w) (hb : Below w.heap.size w w1) : IsForm g base kept closed ok w1 := h.step (fun k _ hlt => hb.block k hlt)
theorem IsForm.chg {S : Nat → Prop} (h : IsForm g base kept closed ok w) (hc : Chg S w w1) (hd : ∀ k, ok k → ¬ S k) : IsForm g base kept closed ok w1 :=
  h.step (fun k hk hlt => hc.keep k hlt (hd k hk))
theorem IsForm.lt (h : IsForm g base kept closed ok w) : g < w.heap.size ∧ base ≤ g ∧ ok g := by
  obtain ⟨kv, h1, h2, h3, _⟩ := h
  exact ⟨blk_lt h1, h2, h3⟩
end
theorem NewF (w : World) : Calls Tryd.prog 30 #[] w fun e w' => ∃ g, e = .returned (.pointer (some ⟨g, 0, none⟩)) ∧ w.heap.size ≤ g ∧ IsForm g w.heap.size [] false (fun b => b = g) w' ∧ Below w.heap.size w w' := by
  have hfin : ∃ g, (.returned (.pointer (some ⟨w.heap.size, 0, none⟩)) : Ending) = .returned (.pointer (some ⟨g, 0, none⟩)) ∧ w.heap.size ≤ g ∧ IsForm g w.heap.size [] false (fun b => b = g) (w.alloc (.cells #[.slice none 0 0, .bool false] TF)) ∧ Below w.heap.size w (w.alloc (.cells #[.slice none 0 0, .bool false] TF)) :=
    ⟨w.heap.size, rfl, Nat.le_refl _, ⟨.slice none 0 0, heap_alloc_new w _, Nat.le_refl _, rfl, Kd.R_nil _ _ _ _ _⟩, below_alloc (Below.refl _ _) _⟩
  go_enter Tryd.func30, Tryd.ntmps30
  go_wp2
  go_ret
  exact hfin
theorem CloseNil (w : World) : Calls Tryd.prog 34 #[.pointer none] w fun e w' => e = .returned (.slice none 0 0) ∧ w = w' := by
  go_enter Tryd.func34, Tryd.ntmps34
  go_wp2
  go_ret
  exact ⟨rfl, rfl⟩
theorem WriteNil (w : World) (A : Option Addr) (n c : Nat) : Calls Tryd.prog 31 #[.pointer none, .slice A n c] w fun e w' => e = .returned (.slice none 0 0) ∧ w = w' := by
  go_enter Tryd.func31, Tryd.ntmps31
  go_wp2
  go_ret
  exact ⟨rfl, rfl⟩
theorem PendNil (w : World) : Calls Tryd.prog 33 #[.pointer none] w fun e w' => e = .returned (.int .i64 0) ∧ w = w' := by
  go_enter Tryd.func33, Tryd.ntmps33
  go_wp2
  go_ret
  exact ⟨rfl, rfl⟩
theorem CloseClosed (w : World) (g base : Nat) (kept : List Int) (ok : Nat → Prop) (h : IsForm g base kept true ok w) :
    Calls Tryd.prog 34 #[.pointer (some ⟨g, 0, none⟩)] w fun e w' => e = .returned (.slice none 0 0) ∧ w = w' := by
  obtain ⟨kv, h1, h2, h3, h4⟩ := h
  have c1 : w.cell? ⟨g, 1, none⟩ = some (.bool true) := by simp [World.cell?, h1]
  clear h1 h2 h3 h4
  go_enter Tryd.func34, Tryd.ntmps34
  go_wp2
  go_ret
  exact ⟨rfl, rfl⟩
theorem WriteClosed (w : World) (g base : Nat) (kept : List Int) (ok : Nat → Prop) (A : Option Addr) (n c : Nat) (h : IsForm g base kept true ok w) :
    Calls Tryd.prog 31 #[.pointer (some ⟨g, 0, none⟩), .slice A n c] w fun e w' => e = .returned (.slice none 0 0) ∧ w = w' := by
  obtain ⟨kv, h1, h2, h3, h4⟩ := h
  have c1 : w.cell? ⟨g, 1, none⟩ = some (.bool true) := by simp [World.cell?, h1]
  clear h1 h2 h3 h4
  go_enter Tryd.func31, Tryd.ntmps31
  go_wp2
  go_ret
  exact ⟨rfl, rfl⟩
theorem PendF (w : World) (g base : Nat) (kept : List Int) (closed : Bool) (ok : Nat → Prop) (h : IsForm g base kept closed ok w) :
    Calls Tryd.prog 33 #[.pointer (some ⟨g, 0, none⟩)] w fun e w' => e = .returned (.int .i64 (kept.length : Int)) ∧ w = w' := by
  obtain ⟨kv, h1, h2, h3, h4⟩ := h
  obtain ⟨A0, c0, rfl⟩ := Kd.R_slice h4
  have c1 : w.cell? ⟨g, 0, none⟩ = some (.slice A0 kept.length c0) := by simp [World.cell?, h1]
  clear h1 h2 h3 h4
  go_enter Tryd.func33, Tryd.ntmps33
  go_wp2
  go_ret
  exact ⟨rfl, rfl⟩

theorem Row.of {w : World} {base : Nat} {ok : Nat → Prop} {v : Value} {xs : List Int} (h : K3.R T3 w base ok v xs) : ∃ A c, v = .slice A xs.length c ∧ xs.length ≤ c ∧ Row w A c xs ∧ ∀ ad, A = some ad → base ≤ ad.block ∧ ok ad.block := by
  rcases Reg.of_row (n := 0) (c := 0) h with ⟨rfl, n, rfl, rfl⟩ | ⟨g, cap, post, rfl, h1, h2, h3, h4, h5⟩
  · exact ⟨none, 0, rfl, Nat.zero_le _, .inl ⟨rfl, rfl, rfl⟩, fun _ h => by cases h⟩
  · exact ⟨_, _, rfl, h1, .inr ⟨g, post, rfl, h5, h1, h2⟩, fun ad had => by cases had; exact ⟨h4, h.1 g rfl⟩⟩
theorem Row.chg {S : Nat → Prop} {w w' : World} {A : Option Addr} {c : Nat} {l : List Int} (h : Row w A c l) (hc : Chg S w w') (hS : ∀ ad, A = some ad → ¬ S ad.block) : Row w' A c l := by
  rcases h with h | ⟨g, post, rfl, hR, h1, h2⟩
  · exact .inl h
  · exact .inr ⟨g, post, rfl, hR.chg hc (hS _ rfl), h1, h2⟩
def ClosePost (w : World) (g base : Nat) (kept : List Int) (ok : Nat → Prop) (e : Ending) (w' : World) : Prop :=
  ∃ A c, e = .returned (.slice A kept.length c) ∧ kept.length ≤ c ∧ Row w' A c (ordL kept) ∧ (∀ ad, A = some ad → base ≤ ad.block ∧ ok ad.block ∧ ad.block ≠ g) ∧ IsForm g base [] true (fun b => b = g) w' ∧ Chg ok w w'
set_option maxHeartbeats 2000000 in
theorem Close (w : World) (hG : G w) (g base : Nat) (kept : List Int) (ok : Nat → Prop) (h : IsForm g base kept false ok w) (hb3 : 3 ≤ base) (hk : kept.length ≤ 1000000000000000) :
    Calls Tryd.prog 34 #[.pointer (some ⟨g, 0, none⟩)] w (ClosePost w g base kept ok) := by
  obtain ⟨kv, h1, h2, h3, h4⟩ := h
  obtain ⟨A, c, rfl, hc, hrow, hA⟩ := Row.of h4
  have c0 : w.cell? ⟨g, 0, none⟩ = some (.slice A kept.length c) := by simp [World.cell?, h1]
  have c1 : w.cell? ⟨g, 1, none⟩ = some (.bool false) := by simp [World.cell?, h1]
  have f1 : w.frozen? ⟨g, 1, none⟩ = false := by simp [World.frozen?, h1]
  have hb1 := blk_set h1 1 (.bool true)
  have c0' : (w.setCell ⟨g, 1, none⟩ (.bool true)).cell? ⟨g, 0, none⟩ = some (.slice A kept.length c) := by simp [World.cell?, hb1]
  have ch1 : Chg (fun b => b = g) w (w.setCell ⟨g, 1, none⟩ (.bool true)) := (Chg.refl (fun b => b = g) w).setCell (p := ⟨g, 1, none⟩) (.inl rfl) _
  have hcall := OrdC (w.setCell ⟨g, 1, none⟩ (.bool true)) (G_chg hG ch1 (fun k hk e => by omega)) A c kept (hrow.chg ch1 (fun ad e h => (hA ad e).2.2 h)) (fun ad e => Nat.le_trans hb3 (hA ad e).1) kept.length rfl hk
  obtain ⟨L, hL⟩ : ∃ L, L = kept.length := ⟨_, rfl⟩
  rw [← hL] at c0' hcall
  have HCall := Aside0.mk hcall
  have HB1 := Aside0.mk hb1
  have HC1 := Aside0.mk ch1
  have HA := Aside0.mk hA
  have HL := Aside0.mk hL
  have H23 := Aside0.mk (And.intro h2 (And.intro h3 hc))
  clear hG h1 h2 h3 h4 hc hrow hA c0 hb1 ch1 hcall hL hb3 hk
  go_enter Tryd.func34, Tryd.ntmps34
  go_upto_region 5 with (first | (go_at_call 54; go_must (refine HCall.out.mono ?_; rintro e w2 ⟨rfl, p1, p2⟩; have C2 := Aside0.mk p1; have R2 := Aside0.mk p2; clear p1 p2)))
  have hb2 : w2.heap[g]? = some (.cells #[.slice A L c, .bool true] TF (0, 0)) := by
    have h := C2.out.heap HB1.out (fun ⟨ad, e, h⟩ => (HA.out ad e).2.2 h.symm)
    rw [← HL.out] at h
    simpa using h
  have c2 : w2.cell? ⟨g, 0, none⟩ = some (.slice A L c) := by simp [World.cell?, hb2]
  have f2 : w2.frozen? ⟨g, 0, none⟩ = false := by simp [World.frozen?, hb2]
  have HB2 := Aside0.mk hb2
  clear hb2 c0' c1 f1
  go_wp2
  go_ret
  have ch3 : Chg (fun b => b = g) w2 (w2.setCell ⟨g, 0, none⟩ (.slice none 0 0)) := (Chg.refl (fun b => b = g) w2).setCell (p := ⟨g, 0, none⟩) (.inl rfl) _
  have e := HL.out
  subst e
  refine ⟨A, c, rfl, H23.out.2.2, R2.out.chg ch3 (fun ad e h => (HA.out ad e).2.2 h), fun ad e => ⟨(HA.out ad e).1, (HA.out ad e).2.1, (HA.out ad e).2.2⟩, ⟨_, by simpa using blk_set HB2.out 0 (.slice none 0 0), H23.out.1, rfl, Kd.R_nil _ _ _ _ _⟩, ?_⟩
  refine ((HC1.out.mono (S' := ok) fun k _ hk => ?_).trans C2.out fun k _ hk => ?_).trans ch3 fun k _ hk => ?_
  · rw [hk]; exact H23.out.2.1
  · obtain ⟨ad, e, rfl⟩ := hk; exact (HA.out ad e).2.1
  · rw [hk]; exact H23.out.2.1
end Go.Proofs.YtiggjbclbdikmaaDoor.Fr

-- Written by a program of this session (xprint.py), over the kit's print.
namespace Go.Proofs.YtiggjbclbdikmaaDoor.X
open Go.RowKit Go.Proofs.YtiggjbclbdikmaaDoorW.PrintWords Go.Proofs.YtiggjbclbdikmaaDoorW.PrintLast Go.Proofs.YtiggjbclbdikmaaDoorW.PrintMore
attribute [local go_sem] max2_int min2_int max_two min_two max_three min_three max_four min_four   -- for this text's walks alone
set_option linter.unusedVariables false
set_option linter.unusedSimpArgs false

/-! ### tremaref01_SameRunes: function 21 -/
def tremaref01_SameRunes.l0 : Nat → List Int → List Int → Int → Option (Bool)
 | 0, _, _, _ => none
 | k + 1, x0, x1, x5 => if x5 < (x0.length : Int) then (if 0 ≤ x5 then (if x5 < (x1.length : Int) then (if (rd x0 x5) = (rd x1 x5) then (tremaref01_SameRunes.l0 k x0 x1 (wrap64 (x5 + 1))) else (some false)) else (none)) else (none)) else (some true)
def tremaref01_SameRunes.f (k : Nat) (l0 : List Int) (l1 : List Int) : Option (Bool) := if (l0.length : Int) = (l1.length : Int) then (tremaref01_SameRunes.l0 k l0 l1 0) else (some false)
theorem tremaref01_SameRunes.mono_l : ∀ k, (∀ y0 y1 y2, LeO (tremaref01_SameRunes.l0 k y0 y1 y2) (tremaref01_SameRunes.l0 (k + 1) y0 y1 y2))
 | 0 => fun _ _ _ r h => by simp [tremaref01_SameRunes.l0] at h
 | k + 1 => by
  have ih0 := tremaref01_SameRunes.mono_l k
  ·intro y0 y1 y2
   unfold tremaref01_SameRunes.l0
   repeat' first
   | (with_reducible exact ih0 _ _ _)
   | (with_reducible exact LeO.refl _)
   | (with_reducible exact LeO.none _)
   | (with_reducible refine LeO.ite ?_ ?_)
   | (with_reducible refine LeO.bind ?_ (fun _ => ?_))
   | exact ih0 _ _ _
   | exact LeO.none _
   | refine LeO.ite ?_ ?_
   | refine LeO.bind ?_ (fun _ => ?_)
theorem tremaref01_SameRunes.mono : ∀ a0 a1 k, LeO (tremaref01_SameRunes.f k a0 a1) (tremaref01_SameRunes.f (k + 1) a0 a1) := by
 intro a0 a1 k
 have ih0 := tremaref01_SameRunes.mono_l k
 unfold tremaref01_SameRunes.f
 repeat' first
   | (with_reducible exact ih0 _ _ _)
   | (with_reducible exact LeO.refl _)
   | (with_reducible exact LeO.none _)
   | (with_reducible refine LeO.ite ?_ ?_)
   | (with_reducible refine LeO.bind ?_ (fun _ => ?_))
   | exact ih0 _ _ _
   | exact LeO.none _
   | refine LeO.ite ?_ ?_
   | refine LeO.bind ?_ (fun _ => ?_)
set_option maxHeartbeats 8000000 in
set_option maxRecDepth 100000 in
theorem tremaref01_SameRunes.calls (k : Nat) (A0 : Option Addr) (c0 : Nat) (l0 : List Int) (A1 : Option Addr) (c1 : Nat) (l1 : List Int) (r : Bool) (w : World) (hr0 : Kd.C (Kd.int .i32) w A0 l0.length l0) (hc0 : l0.length ≤ c0) (hr1 : Kd.C (Kd.int .i32) w A1 l1.length l1) (hc1 : l1.length ≤ c1) (h : tremaref01_SameRunes.f k l0 l1 = some r) :
  Calls Tryd.prog 21 #[.slice A0 l0.length c0, .slice A1 l1.length c1] w fun e w' => e = .returned (.bool r) ∧ Drawn0 w w' := by
 have HR0 := Aside0.mk hr0
 have HC0 := Aside0.mk hc0
 clear hr0 hc0
 have HR1 := Aside0.mk hr1
 have HC1 := Aside0.mk hc1
 clear hr1 hc1
 have H : (if (l0.length : Int) = (l1.length : Int) then (tremaref01_SameRunes.l0 k l0 l1 0) else (some false)) = some r := h
 clear h
 by_cases c3 : (l0.length : Int) = (l1.length : Int)
 ·rw [if_pos c3] at H
  have c3b0 : ((l0.length : Int) == (l1.length : Int)) = true := beq_iff_eq.mpr c3
  have c3b1 : ((l0.length : Int) != (l1.length : Int)) = false := bne_eq_false_iff_eq.mpr c3
  have c3b2 : (l0.length == l1.length) = true := by first | simpa using c3 | (simp at c3 ⊢; omega)
  clear c3
  have H' := Aside0.mk H
  clear H
  go_enter Tryd.func21, Tryd.ntmps21
  go_wp2
  repeat (go_quiet (fail); try go_wp2)
  go_loopg [5] k (fun kq v5 w' => ∃ (x5_1 : Int), v5 = .int .i64 x5_1 ∧ Aside0 (tremaref01_SameRunes.l0 kq l0 l1 x5_1 = some r) ∧ Aside0 (kq ≤ k) ∧ Drawn0 w w')
  case atStart => exact ⟨(0), (by first | rfl | (simp; done) | (simp [*]; done)), H', ⟨Nat.le_refl _⟩, by repeat (first | exact Drawn0.refl _ | apply Drawn0.step)⟩
  case round =>
   clear H'
   try clear c1
   try clear c2
   try clear p2
   try clear c3
   try clear c3b0
   try clear c3b1
   try clear c3b2
   obtain ⟨x5_1, rfl, HA, HK1, ⟨m1, rfl⟩⟩ := hrel
   cases gk with
   | zero => exact absurd HA.out (by simp [tremaref01_SameRunes.l0])
   | succ k1 =>
    have H := HA.out
    clear HA
    simp only [tremaref01_SameRunes.l0] at H
    by_cases c4 : x5_1 < (l0.length : Int)
    ·rw [if_pos c4] at H
     have c4b0 : decide (x5_1 < (l0.length : Int)) = true := decide_eq_true c4
     clear c4
     by_cases c5 : 0 ≤ x5_1
     ·rw [if_pos c5] at H
      have c5b0 : decide (0 ≤ x5_1) = true := decide_eq_true c5
      clear c5
      by_cases c6 : x5_1 < (l1.length : Int)
      ·rw [if_pos c6] at H
       have c6b0 : decide (x5_1 < (l1.length : Int)) = true := decide_eq_true c6
       clear c6
       by_cases c7 : (rd l0 x5_1) = (rd l1 x5_1)
       ·rw [if_pos c7] at H
        have c7b0 : ((rd l0 x5_1) == (rd l1 x5_1)) = true := beq_iff_eq.mpr c7
        have c7b1 : ((rd l0 x5_1) != (rd l1 x5_1)) = false := bne_eq_false_iff_eq.mpr c7
        clear c7
        have H' := Aside0.mk H
        clear H
        have p244 : 0 ≤ (x5_1 : Int) := of_decide_eq_true (by first | (with_reducible assumption) | assumption)
        have q244 : x5_1 < (l0.length : Int) := of_decide_eq_true (by first | (with_reducible assumption) | assumption)
        obtain ⟨ad244, e244, hx244_0⟩ := Kd.at_int HR0.out x5_1 p244 q244
        cases e244
        replace p244 := eq_true p244
        replace q244 := eq_true q244
        have p245 : 0 ≤ (x5_1 : Int) := of_decide_eq_true (by first | (with_reducible assumption) | assumption)
        have q245 : x5_1 < (l1.length : Int) := of_decide_eq_true (by first | (with_reducible assumption) | assumption)
        obtain ⟨ad245, e245, hx245_0⟩ := Kd.at_int HR1.out x5_1 p245 q245
        cases e245
        replace p245 := eq_true p245
        replace q245 := eq_true q245
        go_wp2
        repeat (go_quiet (fail); try go_wp2)
        go_roundg k1
        case measure => have := HK1.out; omega
        case rel => exact ⟨(wrap64 (x5_1 + 1)), (by first | rfl | (simp; done) | (simp [*]; done)), H', ⟨by have := HK1.out; omega⟩, by repeat (first | exact Drawn0.refl _ | apply Drawn0.step)⟩
       ·rw [if_neg c7] at H
        have c7b0 : ((rd l0 x5_1) == (rd l1 x5_1)) = false := beq_eq_false_iff_ne.mpr c7
        have c7b1 : ((rd l0 x5_1) != (rd l1 x5_1)) = true := bne_iff_ne.mpr c7
        obtain rfl := Option.some.inj H
        have p244 : 0 ≤ (x5_1 : Int) := of_decide_eq_true (by first | (with_reducible assumption) | assumption)
        have q244 : x5_1 < (l0.length : Int) := of_decide_eq_true (by first | (with_reducible assumption) | assumption)
        obtain ⟨ad244, e244, hx244_0⟩ := Kd.at_int HR0.out x5_1 p244 q244
        cases e244
        replace p244 := eq_true p244
        replace q244 := eq_true q244
        have p245 : 0 ≤ (x5_1 : Int) := of_decide_eq_true (by first | (with_reducible assumption) | assumption)
        have q245 : x5_1 < (l1.length : Int) := of_decide_eq_true (by first | (with_reducible assumption) | assumption)
        obtain ⟨ad245, e245, hx245_0⟩ := Kd.at_int HR1.out x5_1 p245 q245
        cases e245
        replace p245 := eq_true p245
        replace q245 := eq_true q245
        go_wp2
        repeat (go_quiet (fail); try go_wp2)
        go_ret
        exact ⟨by first | rfl | (simp; done) | (simp [*]; done), by repeat (first | exact Drawn0.refl _ | apply Drawn0.step)⟩
      ·rw [if_neg c6] at H
       exact absurd H (by simp)
     ·rw [if_neg c5] at H
      exact absurd H (by simp)
    ·rw [if_neg c4] at H
     have c4b0 : decide (x5_1 < (l0.length : Int)) = false := decide_eq_false c4
     clear c4
     obtain rfl := Option.some.inj H
     go_wp2
     repeat (go_quiet (fail); try go_wp2)
     go_ret
     exact ⟨by first | rfl | (simp; done) | (simp [*]; done), by repeat (first | exact Drawn0.refl _ | apply Drawn0.step)⟩
 ·rw [if_neg c3] at H
  have c3b0 : ((l0.length : Int) == (l1.length : Int)) = false := beq_eq_false_iff_ne.mpr c3
  have c3b1 : ((l0.length : Int) != (l1.length : Int)) = true := bne_iff_ne.mpr c3
  have c3b2 : (l0.length == l1.length) = false := by first | simpa using c3 | (simp at c3 ⊢; omega)
  obtain rfl := Option.some.inj H
  go_enter Tryd.func21, Tryd.ntmps21
  go_wp2
  repeat (go_quiet (fail); try go_wp2)
  go_ret
  exact ⟨by first | rfl | (simp; done) | (simp [*]; done), by repeat (first | exact Drawn0.refl _ | apply Drawn0.step)⟩

end Go.Proofs.YtiggjbclbdikmaaDoor.X

-- Written by a program of this session (xprint.py), over the kit's print.
namespace Go.Proofs.YtiggjbclbdikmaaDoor.X
open Go.RowKit Go.Proofs.YtiggjbclbdikmaaDoorW.PrintWords Go.Proofs.YtiggjbclbdikmaaDoorW.PrintLast Go.Proofs.YtiggjbclbdikmaaDoorW.PrintMore
attribute [local go_sem] max2_int min2_int max_two min_two max_three min_three max_four min_four   -- for this text's walks alone
set_option linter.unusedVariables false
set_option linter.unusedSimpArgs false

/-! ### ucd_Trailing: function 94 -/
def ucd_Trailing.f (a0 : Int) : Option (Bool) := if a0 ≥ 4449 then (if a0 ≤ 4469 then (some true) else (if a0 ≥ 4520 then (some (decide (a0 ≤ 4546))) else (some false))) else (if a0 ≥ 4520 then (some (decide (a0 ≤ 4546))) else (some false))
set_option maxHeartbeats 8000000 in
set_option maxRecDepth 100000 in
theorem ucd_Trailing.calls (a0 : Int) (r : Bool) (w : World) (h : ucd_Trailing.f a0 = some r) :
  Calls Tryd.prog 94 #[.int .i32 a0] w fun e w' => e = .returned (.bool r) ∧ Drawn0 w w' := by
 have H : (if a0 ≥ 4449 then (if a0 ≤ 4469 then (some true) else (if a0 ≥ 4520 then (some (decide (a0 ≤ 4546))) else (some false))) else (if a0 ≥ 4520 then (some (decide (a0 ≤ 4546))) else (some false))) = some r := h
 clear h
 by_cases c2 : a0 ≥ 4449
 ·rw [if_pos c2] at H
  have c2b0 : decide (4449 ≤ a0) = true := decide_eq_true c2
  clear c2
  by_cases c3 : a0 ≤ 4469
  ·rw [if_pos c3] at H
   have c3b0 : decide (a0 ≤ 4469) = true := decide_eq_true c3
   clear c3
   obtain rfl := Option.some.inj H
   go_enter Tryd.func94, Tryd.ntmps94
   go_wp2
   go_ret
   exact ⟨by first | rfl | (simp; done) | (simp [*]; done), by repeat (first | exact Drawn0.refl _ | apply Drawn0.step)⟩
  ·rw [if_neg c3] at H
   have c3b0 : decide (a0 ≤ 4469) = false := decide_eq_false c3
   clear c3
   by_cases c4 : a0 ≥ 4520
   ·rw [if_pos c4] at H
    have c4b0 : decide (4520 ≤ a0) = true := decide_eq_true c4
    clear c4
    obtain rfl := Option.some.inj H
    go_enter Tryd.func94, Tryd.ntmps94
    go_wp2
    go_ret
    exact ⟨by first | rfl | (simp; done) | (simp [*]; done), by repeat (first | exact Drawn0.refl _ | apply Drawn0.step)⟩
   ·rw [if_neg c4] at H
    have c4b0 : decide (4520 ≤ a0) = false := decide_eq_false c4
    clear c4
    obtain rfl := Option.some.inj H
    go_enter Tryd.func94, Tryd.ntmps94
    go_wp2
    go_ret
    exact ⟨by first | rfl | (simp; done) | (simp [*]; done), by repeat (first | exact Drawn0.refl _ | apply Drawn0.step)⟩
 ·rw [if_neg c2] at H
  have c2b0 : decide (4449 ≤ a0) = false := decide_eq_false c2
  clear c2
  by_cases c5 : a0 ≥ 4520
  ·rw [if_pos c5] at H
   have c5b0 : decide (4520 ≤ a0) = true := decide_eq_true c5
   clear c5
   obtain rfl := Option.some.inj H
   go_enter Tryd.func94, Tryd.ntmps94
   go_wp2
   go_ret
   exact ⟨by first | rfl | (simp; done) | (simp [*]; done), by repeat (first | exact Drawn0.refl _ | apply Drawn0.step)⟩
  ·rw [if_neg c5] at H
   have c5b0 : decide (4520 ≤ a0) = false := decide_eq_false c5
   clear c5
   obtain rfl := Option.some.inj H
   go_enter Tryd.func94, Tryd.ntmps94
   go_wp2
   go_ret
   exact ⟨by first | rfl | (simp; done) | (simp [*]; done), by repeat (first | exact Drawn0.refl _ | apply Drawn0.step)⟩

end Go.Proofs.YtiggjbclbdikmaaDoor.X

/-
  ucd.Opens, SameRunes.
-/
namespace Go.Proofs.YtiggjbclbdikmaaDoor.Ve
set_option linter.unusedVariables false
set_option linter.unusedSimpArgs false
open Go.RowKit Go.Proofs.YtiggjbclbdikmaaDoorW.PrintWords Go.Proofs.YtiggjbclbdikmaaDoor.Hp Go.Proofs.YtiggjbclbdikmaaDoor.Va Go.Proofs.YtiggjbclbdikmaaDoor.Vc Go.Proofs.YtiggjbclbdikmaaDoor.Vd Go.Proofs.YtiggjbclbdikmaaDoor.X

/-! trailing, opening -/
def trl (r : Int) : Bool := decide (4449 ≤ r ∧ r ≤ 4469 ∨ 4520 ≤ r ∧ r ≤ 4546)
theorem trl_pure (r : Int) : ucd_Trailing.f r = some (trl r) := by
  unfold ucd_Trailing.f trl
  split
  · split
    · congr 1; symm; rw [decide_eq_true_eq]; omega
    · split
      · congr 1; rw [decide_eq_decide]; omega
      · congr 1; symm; rw [decide_eq_false_iff_not]; omega
  · split
    · congr 1; rw [decide_eq_decide]; omega
    · congr 1; symm; rw [decide_eq_false_iff_not]; omega
theorem TrailP (w : World) (r : Int) : Calls Tryd.prog 94 #[.int .i32 r] w fun e w' => e = .returned (.bool (trl r)) ∧ Below w.heap.size w w' :=
  (ucd_Trailing.calls r (trl r) w (trl_pure r)).mono fun _ _ h => ⟨h.1, h.2.below⟩
theorem decF_ne : ∀ (k : Nat) (r : Int), decF k r ≠ []
  | 0, _ => by simp [decF]
  | k + 1, r => by
    have := decF_ne k (pairU r).1
    rw [decF]
    split
    · simp
    · split
      · exact this
      · simp [this]
def opn (r : Int) : Bool := (cls ((decU r).getD 0 0) == 0) && !trl ((decU r).getD 0 0)
theorem intC {w : World} {A : Option Addr} {n : Nat} {xs : List Int} (h : K3.C w A n xs) (j : Nat) (hj : j < n) : ∃ ad, A = some ad ∧ w.cell? (ad.add j) = some (.int .i32 (xs.getD j 0)) := by
  have h1 := (rdint h).2.2 (by omega)
  obtain ⟨ad, h2, h3⟩ := h1
  exact ⟨ad, h2, h3 j hj⟩
theorem intC0 {w : World} {A : Option Addr} {n : Nat} {xs : List Int} (h : K3.C w A n xs) (hn : 0 < n) : ∃ ad, A = some ad ∧ w.cell? ad = some (.int .i32 (xs.getD 0 0)) := by
  obtain ⟨ad, h2, h3⟩ := intC h 0 hn
  exact ⟨ad, h2, h3⟩
set_option maxRecDepth 100000 in
set_option maxHeartbeats 1000000 in
theorem OpensP (w : World) (hG : G w) (r : Int) (hr : -2147483648 ≤ r ∧ r ≤ 2147483647) : Calls Tryd.prog 87 #[.int .i32 r] w fun e w' => e = .returned (.bool (opn r)) ∧ Below w.heap.size w w' := by
  have HG := Aside0.mk hG
  have HD := Aside0.mk (DecP w hG r hr)
  have HNE := Aside0.mk (decF_ne 4 r)
  have HO := Aside0.mk (show opn r = ((cls ((decU r).getD 0 0) == 0) && !trl ((decU r).getD 0 0)) from rfl)
  clear hG hr
  obtain ⟨l, hl⟩ : ∃ l, l = decU r := ⟨_, rfl⟩
  rw [show decF 4 r = decU r from rfl, ← hl] at HNE
  rw [← hl] at HD HO
  clear hl
  obtain ⟨n, hn⟩ : ∃ n, n = l.length := ⟨_, rfl⟩
  have hn0 : 0 < n := by rw [hn]; exact List.length_pos_iff.2 HNE.out
  obtain ⟨x, hx⟩ : ∃ x, x = l.getD 0 0 := ⟨_, rfl⟩
  rw [← hx] at HO
  have HN := Aside0.mk hn
  have HX := Aside0.mk hx
  clear hn hx
  cases hc : (cls x == 0) with
  | true =>
    rw [hc, Bool.true_and] at HO
    go_enter Tryd.func87, Tryd.ntmps87
    go_wp2_with (first | (go_at_call 53; go_must (refine HD.out.mono ?_; rintro e w1 ⟨v1, rfl, r1, p1⟩; obtain ⟨A1, c1, rfl, hc1, hC1⟩ := Kd.R_reads r1; have HB := Aside0.mk p1; rw [← HN.out] at hC1 ⊢; obtain ⟨ad, rfl, cell⟩ := intC0 hC1 hn0; rw [← HX.out] at cell; clear r1 p1 hC1 hc1)) | (go_at_call 62; go_must (refine (ClassP w1 (HG.out.below HB.out) x).mono ?_; rintro e w2 ⟨rfl, p2⟩; have HB2 := Aside0.mk (below_then HB.out HB.out.size p2); clear p2)) | (go_at_call 94; go_must (refine (TrailP w2 x).mono ?_; rintro e w3 ⟨rfl, p3⟩; have HB3 := Aside0.mk (below_then HB2.out HB2.out.size p3); clear p3)))
    go_ret
    exact ⟨by rw [HO.out]; rfl, HB3.out⟩
  | false =>
    rw [hc, Bool.false_and] at HO
    go_enter Tryd.func87, Tryd.ntmps87
    go_wp2_with (first | (go_at_call 53; go_must (refine HD.out.mono ?_; rintro e w1 ⟨v1, rfl, r1, p1⟩; obtain ⟨A1, c1, rfl, hc1, hC1⟩ := Kd.R_reads r1; have HB := Aside0.mk p1; rw [← HN.out] at hC1 ⊢; obtain ⟨ad, rfl, cell⟩ := intC0 hC1 hn0; rw [← HX.out] at cell; clear r1 p1 hC1 hc1)) | (go_at_call 62; go_must (refine (ClassP w1 (HG.out.below HB.out) x).mono ?_; rintro e w2 ⟨rfl, p2⟩; have HB2 := Aside0.mk (below_then HB.out HB.out.size p2); clear p2)))
    go_ret
    exact ⟨by rw [HO.out]; rfl, HB2.out⟩
/-! the same -/
theorem same_loop (l m : List Int) (hl : l.length ≤ 1000000000) (hlm : l.length = m.length) (d : Nat) : ∀ (i k : Nat), l.length - i = d → i ≤ l.length → d < k → tremaref01_SameRunes.l0 k l m i = some (decide (l.drop i = m.drop i)) := by
  induction d with
  | zero =>
    intro i k h1 h2 h3
    obtain ⟨k, rfl⟩ : ∃ q, k = q + 1 := ⟨k - 1, by omega⟩
    rw [tremaref01_SameRunes.l0, if_neg (by omega), List.drop_eq_nil_of_le (by omega), List.drop_eq_nil_of_le (by omega)]
    rfl
  | succ d ih =>
    intro i k h1 h2 h3
    obtain ⟨k, rfl⟩ : ∃ q, k = q + 1 := ⟨k - 1, by omega⟩
    have hlt : i < l.length := by omega
    have hlt2 : i < m.length := by omega
    have hih := ih (i + 1) k (by omega) (by omega) (by omega)
    have hw : wrap64 ((i : Int) + 1) = ((i + 1 : Nat) : Int) := by unfold wrap64; omega
    have c1 : (i : Int) < (l.length : Int) := by omega
    have c2 : (i : Int) < (m.length : Int) := by omega
    have c3 : 0 ≤ (i : Int) := by omega
    have e1 : rd l (i : Int) = l[i] := by simp [rd, List.getD_eq_getElem?_getD, List.getElem?_eq_getElem hlt]
    have e2 : rd m (i : Int) = m[i] := by simp [rd, List.getD_eq_getElem?_getD, List.getElem?_eq_getElem hlt2]
    rw [tremaref01_SameRunes.l0, if_pos c1, if_pos c3, if_pos c2, e1, e2, List.drop_eq_getElem_cons hlt, List.drop_eq_getElem_cons hlt2]
    by_cases h : l[i] = m[i]
    · rw [if_pos h, hw, hih]
      congr 1
      rw [decide_eq_decide]
      exact ⟨fun e => by rw [h, e], fun e => (List.cons.inj e).2⟩
    · rw [if_neg h]
      congr 1
      symm
      rw [decide_eq_false_iff_not]
      exact fun e => h (List.cons.inj e).1
theorem same_pure (l m : List Int) (hl : l.length ≤ 1000000000) : tremaref01_SameRunes.f (l.length + 1) l m = some (decide (l = m)) := by
  unfold tremaref01_SameRunes.f
  by_cases h : l.length = m.length
  · rw [if_pos (by omega)]
    have := same_loop l m hl h l.length 0 (l.length + 1) (by omega) (by omega) (by omega)
    simpa using this
  · rw [if_neg (by omega)]
    have : l ≠ m := fun e => h (by rw [e])
    simp [this]
theorem SameP (w : World) (A : Option Addr) (n c : Nat) (l : List Int) (hC : K3.C w A n l) (hn : n = l.length) (hc : n ≤ c) (B : Option Addr) (n2 d : Nat) (m : List Int) (hD : K3.C w B n2 m) (hn2 : n2 = m.length) (hd : n2 ≤ d) (hl : n ≤ 1000000000) :
    Calls Tryd.prog 21 #[.slice A n c, .slice B n2 d] w fun e w' => e = .returned (.bool (decide (l = m))) ∧ Below w.heap.size w w' := by
  subst hn hn2
  exact (tremaref01_SameRunes.calls _ A c l B d m _ w hC hc hD hd (same_pure l m hl)).mono fun _ _ h => ⟨h.1, h.2.below⟩
end Go.Proofs.YtiggjbclbdikmaaDoor.Ve
namespace Go.Proofs.YtiggjbclbdikmaaDoor.X
open Go.RowKit Go.Proofs.YtiggjbclbdikmaaDoorW.PrintWords
def ucd_Opens.f (a0 : Int) : Option Bool := if -2147483648 ≤ a0 ∧ a0 ≤ 2147483647 then some (Ve.opn a0) else none
theorem ucd_Opens.calls (a0 : Int) (r : Bool) (w : World) (h : ucd_Opens.f a0 = some r) (hG0 : Va.G w) : Calls Tryd.prog 87 #[.int .i32 a0] w fun e w' => e = .returned (.bool r) ∧ Below w.heap.size w w' := by
  unfold ucd_Opens.f at h
  split at h
  · rename_i hr
    obtain rfl := Option.some.inj h
    exact Ve.OpensP w hG0 a0 hr
  · cases h
end Go.Proofs.YtiggjbclbdikmaaDoor.X

/-
  Loops in rounds, plainly: what holds from some number of rounds on.
-/
namespace Go.Proofs.YtiggjbclbdikmaaDoor.Ev0
set_option linter.unusedVariables false
set_option linter.unusedSimpArgs false
open Go.RowKit Go.Proofs.YtiggjbclbdikmaaDoorW.PrintWords

theorem w64 {i : Nat} (h : i < 4611686018427387904) : wrap64 ((i : Int) + 1) = ((i + 1 : Nat) : Int) := by unfold wrap64; omega
theorem w64' {i : Int} (h0 : 0 ≤ i) (h : i < 4611686018427387904) : wrap64 (i + 1) = i + 1 := by unfold wrap64; omega
theorem rd_nat {l : List Int} {i : Nat} (h : i < l.length) : rd l (i : Int) = l[i] := by simp [rd, List.getD_eq_getElem?_getD, List.getElem?_eq_getElem h]
/-- A count from i up to n. -/
theorem ev_range {α : Type} {F : Nat → Int → Option α} {n : Nat} {r : α} (hend : Ev (fun k => F k (n : Int)) r) (hstep : ∀ i : Nat, i < n → Ev (fun k => F k ((i + 1 : Nat) : Int)) r → Ev (fun k => F k (i : Int)) r) : ∀ i : Nat, i ≤ n → Ev (fun k => F k (i : Int)) r := by
  have key : ∀ d i : Nat, i + d = n → Ev (fun k => F k (i : Int)) r := by
    intro d
    induction d with
    | zero => intro i h; obtain rfl : i = n := by omega
              exact hend
    | succ d ih => intro i h; exact hstep i (by omega) (ih (i + 1) (by omega))
  intro i h
  exact key (n - i) i (by omega)
theorem ev_cast {α : Type} {F : Nat → Int → Option α} {r : α} (h : Ev (fun k => F k ((0 : Nat) : Int)) r) : Ev (fun k => F k 0) r := h
/-- A loop over a list: 'range', from the first element on. -/
theorem ev_list {α : Type} {F : Nat → Int → Option α} {l : List Int} {r : α} (hend : Ev (fun k => F k (l.length : Int)) r) (hstep : ∀ (i : Nat) (x : Int), i < l.length → x ∈ l → rd l (i : Int) = x → Ev (fun k => F k ((i + 1 : Nat) : Int)) r → Ev (fun k => F k (i : Int)) r) : Ev (fun k => F k 0) r :=
  ev_range (n := l.length) hend (fun i hi h => hstep i l[i] hi (List.getElem_mem hi) (rd_nat hi) h) 0 (Nat.zero_le _)
end Go.Proofs.YtiggjbclbdikmaaDoor.Ev0

/-
  Plain facts on ucd: classes, the bottom.
-/
namespace Go.Proofs.YtiggjbclbdikmaaDoor.Vp0
set_option linter.unusedVariables false
set_option linter.unusedSimpArgs false
open Go.RowKit Go.Proofs.YtiggjbclbdikmaaDoorW.PrintWords Go.Proofs.YtiggjbclbdikmaaDoor.Ev0 Go.Proofs.YtiggjbclbdikmaaDoor.X Go.Proofs.YtiggjbclbdikmaaDoor.Va Go.Proofs.YtiggjbclbdikmaaDoor.Vc Go.Proofs.YtiggjbclbdikmaaDoor.Vd Go.Proofs.YtiggjbclbdikmaaDoor.Ve

theorem sameEv (l m : List Int) (hl : l.length ≤ 1000000000) : Ev (fun k => tremaref01_SameRunes.f k l m) (decide (l = m)) := Ev.of (tremaref01_SameRunes.mono l m) (same_pure l m hl)
def I32 (x : Int) : Prop := -2147483648 ≤ x ∧ x ≤ 2147483647
theorem wf32 {x : Int} (h : (Lit.int .i32 x).wf = true) : I32 x := by
  simp [Lit.wf] at h
  have e1 : IntKind.i32.min = -2147483648 := by decide
  have e2 : IntKind.i32.max = 2147483647 := by decide
  unfold I32
  omega

/-! marks -/
theorem clsF_in (r : Int) : ∀ l : List (Int × Int × Int), clsF r l ≠ 0 → ∃ p ∈ l, p.1 ≤ r ∧ r ≤ p.2.1
  | [], h => absurd rfl h
  | p :: t, h => by
    rw [clsF] at h
    by_cases c : p.1 ≤ r ∧ r ≤ p.2.1
    · exact ⟨p, List.mem_cons_self .., c⟩
    · rw [if_neg c] at h
      obtain ⟨q, hq, h2⟩ := clsF_in r t h
      exact ⟨q, List.mem_cons_of_mem _ hq, h2⟩
def spread (l : List (Int × Int × Int)) : List Int := l.flatMap fun p => (List.range ((p.2.1 - p.1).toNat + 1)).map fun k : Nat => p.1 + (k : Int)
theorem cls_spread (r : Int) (h : cls r ≠ 0) : r ∈ spread clsT := by
  obtain ⟨p, hp, h1, h2⟩ := clsF_in r clsT h
  refine List.mem_flatMap.2 ⟨p, hp, List.mem_map.2 ⟨(r - p.1).toNat, List.mem_range.2 (by omega), by omega⟩⟩
/-! the bottom -/
theorem dec_zero (r : Int) (h : pairU r = (0, 0, 0)) : decU r = [r] := decF_zero 4 r h
theorem opn_zero (r : Int) (h : pairU r = (0, 0, 0)) : opn r = ((cls r == 0) && !trl r) := by unfold opn; rw [dec_zero r h]; rfl
def botB (r : Int) : Bool := decide (1 ≤ (decU r).length ∧ (decU r).length ≤ 3) && (decU r).all (fun x => decide ((pairU x) = (0, 0, 0)) && decide (0 ≤ x ∧ x < 65536)) && ((decU r).drop 1).all (fun x => !opn x)
theorem bot_keys : ∀ r ∈ keys, botB r = true := by decide +kernel
theorem jamo_shut (r : Int) (h : 4449 ≤ r ∧ r ≤ 4469 ∨ 4520 ≤ r ∧ r ≤ 4546) : opn r = false := by
  rw [opn_zero r (jamo_zero r (by omega))]
  have : trl r = true := by unfold trl; exact decide_eq_true h
  rw [this]; simp
theorem syl_dec (s : Nat) (hs : s ≤ 11171) : decU (44032 + (s : Int)) = [4352 + ((s / 588 : Nat) : Int), 4449 + ((s % 588 / 28 : Nat) : Int)] ++ if s % 28 = 0 then [] else [4519 + ((s % 28 : Nat) : Int)] := (syl_all s hs 2).2
structure Bot (r : Int) : Prop where
  lo : 1 ≤ (decU r).length
  hi : (decU r).length ≤ 3
  zero : ∀ x ∈ decU r, pairU x = (0, 0, 0)
  rng : ∀ x ∈ decU r, I32 x
  shut : ∀ x ∈ (decU r).drop 1, opn x = false
theorem bottom (r : Int) (hr : I32 r) : Bot r := by
  rcases cases3 r with h | ⟨s, hs, rfl⟩ | h
  · have := bot_keys r h
    simp only [botB, Bool.and_eq_true, decide_eq_true_eq, List.all_eq_true, Bool.not_eq_true'] at this
    obtain ⟨⟨⟨h1, h2⟩, h3⟩, h4⟩ := this
    exact ⟨h1, h2, fun x hx => (h3 x hx).1, fun x hx => by have := (h3 x hx).2; unfold I32; omega, h4⟩
  · have hd := syl_dec s hs
    have z1 := jamo_zero (4352 + ((s / 588 : Nat) : Int)) (by omega)
    have z2 := jamo_zero (4449 + ((s % 588 / 28 : Nat) : Int)) (by omega)
    have z3 := jamo_zero (4519 + ((s % 28 : Nat) : Int)) (by omega)
    by_cases ht : s % 28 = 0
    · rw [if_pos ht, List.append_nil] at hd
      refine ⟨by rw [hd]; simp, by rw [hd]; simp, ?_, ?_, ?_⟩
      · rw [hd]; intro x hx; simp at hx; rcases hx with rfl | rfl; exact z1; exact z2
      · rw [hd]; intro x hx; simp at hx; unfold I32; rcases hx with rfl | rfl <;> omega
      · rw [hd]; intro x hx; simp at hx; subst hx; exact jamo_shut _ (by omega)
    · rw [if_neg ht] at hd
      refine ⟨by rw [hd]; simp, by rw [hd]; simp, ?_, ?_, ?_⟩
      · rw [hd]; intro x hx; simp at hx; rcases hx with rfl | rfl | rfl; exact z1; exact z2; exact z3
      · rw [hd]; intro x hx; simp at hx; unfold I32; rcases hx with rfl | rfl | rfl <;> omega
      · rw [hd]; intro x hx; simp at hx; rcases hx with rfl | rfl <;> exact jamo_shut _ (by omega)
  · have hd := dec_zero r h
    refine ⟨by rw [hd]; simp, by rw [hd]; simp, ?_, ?_, ?_⟩
    · rw [hd]; intro x hx; simp at hx; subst hx; exact h
    · rw [hd]; intro x hx; simp at hx; subst hx; exact hr
    · rw [hd]; simp
theorem opn_first (r : Int) (hr : I32 r) : opn ((decU r).getD 0 0) = opn r := by
  have hb := bottom r hr
  have hm : (decU r).getD 0 0 ∈ decU r := by
    have := hb.lo
    rw [List.getD_eq_getElem?_getD, List.getElem?_eq_getElem (by omega)]
    exact List.getElem_mem _
  rw [opn_zero _ (hb.zero _ hm)]
  rfl
end Go.Proofs.YtiggjbclbdikmaaDoor.Vp0

-- Written by a program of this session (xprint.py), over the kit's print.
namespace Go.Proofs.YtiggjbclbdikmaaDoor.X
open Go.RowKit Go.Proofs.YtiggjbclbdikmaaDoorW.PrintWords Go.Proofs.YtiggjbclbdikmaaDoorW.PrintLast Go.Proofs.YtiggjbclbdikmaaDoorW.PrintMore
attribute [local go_sem] max2_int min2_int max_two min_two max_three min_three max_four min_four   -- for this text's walks alone
set_option linter.unusedVariables false
set_option linter.unusedSimpArgs false

/-! ### tremaref02_in: function 60 -/
def tremaref02_in.f (a0 : Int) (a1 : Int) (a2 : Int) : Option (Bool) := if a1 ≤ a0 then (some (decide (a0 ≤ a2))) else (some false)
set_option maxHeartbeats 8000000 in
set_option maxRecDepth 100000 in
theorem tremaref02_in.calls (a0 : Int) (a1 : Int) (a2 : Int) (r : Bool) (w : World) (h : tremaref02_in.f a0 a1 a2 = some r) :
  Calls Tryd.prog 60 #[.int .i32 a0, .int .i32 a1, .int .i32 a2] w fun e w' => e = .returned (.bool r) ∧ Drawn0 w w' := by
 have H : (if a1 ≤ a0 then (some (decide (a0 ≤ a2))) else (some false)) = some r := h
 clear h
 by_cases c4 : a1 ≤ a0
 ·rw [if_pos c4] at H
  have c4b0 : decide (a1 ≤ a0) = true := decide_eq_true c4
  clear c4
  obtain rfl := Option.some.inj H
  go_enter Tryd.func60, Tryd.ntmps60
  go_wp2
  go_ret
  exact ⟨by first | rfl | (simp; done) | (simp [*]; done), by repeat (first | exact Drawn0.refl _ | apply Drawn0.step)⟩
 ·rw [if_neg c4] at H
  have c4b0 : decide (a1 ≤ a0) = false := decide_eq_false c4
  clear c4
  obtain rfl := Option.some.inj H
  go_enter Tryd.func60, Tryd.ntmps60
  go_wp2
  go_ret
  exact ⟨by first | rfl | (simp; done) | (simp [*]; done), by repeat (first | exact Drawn0.refl _ | apply Drawn0.step)⟩

end Go.Proofs.YtiggjbclbdikmaaDoor.X

-- Written by a program of this session (xprint.py), over the kit's print.
namespace Go.Proofs.YtiggjbclbdikmaaDoor.X
open Go.RowKit Go.Proofs.YtiggjbclbdikmaaDoorW.PrintWords Go.Proofs.YtiggjbclbdikmaaDoorW.PrintLast Go.Proofs.YtiggjbclbdikmaaDoorW.PrintMore
attribute [local go_sem] max2_int min2_int max_two min_two max_three min_three max_four min_four   -- for this text's walks alone
set_option linter.unusedVariables false
set_option linter.unusedSimpArgs false

/-! ### tremaref02_Class: function 29 -/
mutual
def tremaref02_Class.j1 : Nat → Int → Bool → Option (Int)
 | 0, _, _ => none
 | k + 1, x0, x3 => if x3 = true then (some 230) else ((tremaref02_in.f x0 789 789).bind fun t183 => (if t183 = true then (tremaref02_Class.j2 k x0 t183) else ((tremaref02_in.f x0 794 794).bind fun t184 => (tremaref02_Class.j2 k x0 t184))))
def tremaref02_Class.j2 : Nat → Int → Bool → Option (Int)
 | 0, _, _ => none
 | k + 1, x0, x20 => if x20 = true then (some 232) else ((tremaref02_in.f x0 790 793).bind fun t185 => (if t185 = true then (tremaref02_Class.j4 k x0 t185) else ((tremaref02_in.f x0 796 800).bind fun t186 => (if t186 = true then (tremaref02_Class.j4 k x0 t186) else ((tremaref02_in.f x0 803 806).bind fun t187 => (if t187 = true then (tremaref02_Class.j4 k x0 t187) else ((tremaref02_in.f x0 809 819).bind fun t188 => (if t188 = true then (tremaref02_Class.j3 k x0 true) else ((tremaref02_in.f x0 825 828).bind fun t189 => (tremaref02_Class.j3 k x0 t189))))))))))
def tremaref02_Class.j4 : Nat → Int → Bool → Option (Int)
 | 0, _, _ => none
 | k + 1, x0, x25 => if x25 = true then (some 220) else ((tremaref02_in.f x0 795 795).bind fun t193 => (if t193 = true then (some 216) else ((tremaref02_in.f x0 801 802).bind fun t194 => (if t194 = true then (tremaref02_Class.j5 k x0 t194) else ((tremaref02_in.f x0 807 808).bind fun t195 => (tremaref02_Class.j5 k x0 t195))))))
def tremaref02_Class.j5 : Nat → Int → Bool → Option (Int)
 | 0, _, _ => none
 | k + 1, x0, x47 => if x47 = true then (some 202) else ((tremaref02_in.f x0 820 824).bind fun t196 => (if t196 = true then (some 1) else ((tremaref02_in.f x0 837 837).bind fun t197 => (if t197 = true then (some 240) else ((tremaref02_in.f x0 12441 12442).bind fun t198 => (if t198 = true then (some 8) else (some 0)))))))
def tremaref02_Class.j3 : Nat → Int → Bool → Option (Int)
 | 0, _, _ => none
 | k + 1, x0, x25 => if x25 = true then (tremaref02_Class.j4 k x0 x25) else ((tremaref02_in.f x0 839 841).bind fun t190 => (if t190 = true then (tremaref02_Class.j4 k x0 t190) else ((tremaref02_in.f x0 845 846).bind fun t191 => (if t191 = true then (tremaref02_Class.j4 k x0 t191) else ((tremaref02_in.f x0 851 854).bind fun t192 => (tremaref02_Class.j4 k x0 t192))))))
def tremaref02_Class.j0 : Nat → Int → Bool → Option (Int)
 | 0, _, _ => none
 | k + 1, x0, x3 => if x3 = true then (tremaref02_Class.j1 k x0 x3) else ((tremaref02_in.f x0 855 855).bind fun t181 => (if t181 = true then (tremaref02_Class.j1 k x0 t181) else ((tremaref02_in.f x0 8400 8401).bind fun t182 => (tremaref02_Class.j1 k x0 t182))))
end
def tremaref02_Class.f (k : Nat) (a0 : Int) : Option (Int) := (tremaref02_in.f a0 768 788).bind fun t176 => (if t176 = true then (tremaref02_Class.j1 k a0 t176) else ((tremaref02_in.f a0 829 836).bind fun t177 => (if t177 = true then (tremaref02_Class.j1 k a0 t177) else ((tremaref02_in.f a0 838 838).bind fun t178 => (if t178 = true then (tremaref02_Class.j1 k a0 t178) else ((tremaref02_in.f a0 842 844).bind fun t179 => (if t179 = true then (tremaref02_Class.j0 k a0 true) else ((tremaref02_in.f a0 848 850).bind fun t180 => (tremaref02_Class.j0 k a0 t180)))))))))
theorem tremaref02_Class.mono_l : ∀ k, (∀ y0 y1, LeO (tremaref02_Class.j1 k y0 y1) (tremaref02_Class.j1 (k + 1) y0 y1)) ∧ (∀ y0 y1, LeO (tremaref02_Class.j2 k y0 y1) (tremaref02_Class.j2 (k + 1) y0 y1)) ∧ (∀ y0 y1, LeO (tremaref02_Class.j4 k y0 y1) (tremaref02_Class.j4 (k + 1) y0 y1)) ∧ (∀ y0 y1, LeO (tremaref02_Class.j5 k y0 y1) (tremaref02_Class.j5 (k + 1) y0 y1)) ∧ (∀ y0 y1, LeO (tremaref02_Class.j3 k y0 y1) (tremaref02_Class.j3 (k + 1) y0 y1)) ∧ (∀ y0 y1, LeO (tremaref02_Class.j0 k y0 y1) (tremaref02_Class.j0 (k + 1) y0 y1))
 | 0 => ⟨fun _ _ r h => by simp [tremaref02_Class.j1] at h, fun _ _ r h => by simp [tremaref02_Class.j2] at h, fun _ _ r h => by simp [tremaref02_Class.j4] at h, fun _ _ r h => by simp [tremaref02_Class.j5] at h, fun _ _ r h => by simp [tremaref02_Class.j3] at h, fun _ _ r h => by simp [tremaref02_Class.j0] at h⟩
 | k + 1 => by
  obtain ⟨ih0, ih1, ih2, ih3, ih4, ih5⟩ := tremaref02_Class.mono_l k
  refine ⟨?_, ?_, ?_, ?_, ?_, ?_⟩
  ·intro y0 y1
   unfold tremaref02_Class.j1
   repeat' first
   | (with_reducible exact ih0 _ _)
   | (with_reducible exact ih1 _ _)
   | (with_reducible exact ih2 _ _)
   | (with_reducible exact ih3 _ _)
   | (with_reducible exact ih4 _ _)
   | (with_reducible exact ih5 _ _)
   | (with_reducible exact LeO.refl _)
   | (with_reducible exact LeO.none _)
   | (with_reducible refine LeO.ite ?_ ?_)
   | (with_reducible refine LeO.bind ?_ (fun _ => ?_))
   | exact ih0 _ _
   | exact ih1 _ _
   | exact ih2 _ _
   | exact ih3 _ _
   | exact ih4 _ _
   | exact ih5 _ _
   | exact LeO.none _
   | refine LeO.ite ?_ ?_
   | refine LeO.bind ?_ (fun _ => ?_)
  ·intro y0 y1
   unfold tremaref02_Class.j2
   repeat' first
   | (with_reducible exact ih0 _ _)
   | (with_reducible exact ih1 _ _)
   | (with_reducible exact ih2 _ _)
   | (with_reducible exact ih3 _ _)
   | (with_reducible exact ih4 _ _)
   | (with_reducible exact ih5 _ _)
   | (with_reducible exact LeO.refl _)
   | (with_reducible exact LeO.none _)
   | (with_reducible refine LeO.ite ?_ ?_)
   | (with_reducible refine LeO.bind ?_ (fun _ => ?_))
   | exact ih0 _ _
   | exact ih1 _ _
   | exact ih2 _ _
   | exact ih3 _ _
   | exact ih4 _ _
   | exact ih5 _ _
   | exact LeO.none _
   | refine LeO.ite ?_ ?_
   | refine LeO.bind ?_ (fun _ => ?_)
  ·intro y0 y1
   unfold tremaref02_Class.j4
   repeat' first
   | (with_reducible exact ih0 _ _)
   | (with_reducible exact ih1 _ _)
   | (with_reducible exact ih2 _ _)
   | (with_reducible exact ih3 _ _)
   | (with_reducible exact ih4 _ _)
   | (with_reducible exact ih5 _ _)
   | (with_reducible exact LeO.refl _)
   | (with_reducible exact LeO.none _)
   | (with_reducible refine LeO.ite ?_ ?_)
   | (with_reducible refine LeO.bind ?_ (fun _ => ?_))
   | exact ih0 _ _
   | exact ih1 _ _
   | exact ih2 _ _
   | exact ih3 _ _
   | exact ih4 _ _
   | exact ih5 _ _
   | exact LeO.none _
   | refine LeO.ite ?_ ?_
   | refine LeO.bind ?_ (fun _ => ?_)
  ·intro y0 y1
   unfold tremaref02_Class.j5
   repeat' first
   | (with_reducible exact ih0 _ _)
   | (with_reducible exact ih1 _ _)
   | (with_reducible exact ih2 _ _)
   | (with_reducible exact ih3 _ _)
   | (with_reducible exact ih4 _ _)
   | (with_reducible exact ih5 _ _)
   | (with_reducible exact LeO.refl _)
   | (with_reducible exact LeO.none _)
   | (with_reducible refine LeO.ite ?_ ?_)
   | (with_reducible refine LeO.bind ?_ (fun _ => ?_))
   | exact ih0 _ _
   | exact ih1 _ _
   | exact ih2 _ _
   | exact ih3 _ _
   | exact ih4 _ _
   | exact ih5 _ _
   | exact LeO.none _
   | refine LeO.ite ?_ ?_
   | refine LeO.bind ?_ (fun _ => ?_)
  ·intro y0 y1
   unfold tremaref02_Class.j3
   repeat' first
   | (with_reducible exact ih0 _ _)
   | (with_reducible exact ih1 _ _)
   | (with_reducible exact ih2 _ _)
   | (with_reducible exact ih3 _ _)
   | (with_reducible exact ih4 _ _)
   | (with_reducible exact ih5 _ _)
   | (with_reducible exact LeO.refl _)
   | (with_reducible exact LeO.none _)
   | (with_reducible refine LeO.ite ?_ ?_)
   | (with_reducible refine LeO.bind ?_ (fun _ => ?_))
   | exact ih0 _ _
   | exact ih1 _ _
   | exact ih2 _ _
   | exact ih3 _ _
   | exact ih4 _ _
   | exact ih5 _ _
   | exact LeO.none _
   | refine LeO.ite ?_ ?_
   | refine LeO.bind ?_ (fun _ => ?_)
  ·intro y0 y1
   unfold tremaref02_Class.j0
   repeat' first
   | (with_reducible exact ih0 _ _)
   | (with_reducible exact ih1 _ _)
   | (with_reducible exact ih2 _ _)
   | (with_reducible exact ih3 _ _)
   | (with_reducible exact ih4 _ _)
   | (with_reducible exact ih5 _ _)
   | (with_reducible exact LeO.refl _)
   | (with_reducible exact LeO.none _)
   | (with_reducible refine LeO.ite ?_ ?_)
   | (with_reducible refine LeO.bind ?_ (fun _ => ?_))
   | exact ih0 _ _
   | exact ih1 _ _
   | exact ih2 _ _
   | exact ih3 _ _
   | exact ih4 _ _
   | exact ih5 _ _
   | exact LeO.none _
   | refine LeO.ite ?_ ?_
   | refine LeO.bind ?_ (fun _ => ?_)
theorem tremaref02_Class.mono : ∀ a0 k, LeO (tremaref02_Class.f k a0) (tremaref02_Class.f (k + 1) a0) := by
 intro a0 k
 obtain ⟨ih0, ih1, ih2, ih3, ih4, ih5⟩ := tremaref02_Class.mono_l k
 unfold tremaref02_Class.f
 repeat' first
   | (with_reducible exact ih0 _ _)
   | (with_reducible exact ih1 _ _)
   | (with_reducible exact ih2 _ _)
   | (with_reducible exact ih3 _ _)
   | (with_reducible exact ih4 _ _)
   | (with_reducible exact ih5 _ _)
   | (with_reducible exact LeO.refl _)
   | (with_reducible exact LeO.none _)
   | (with_reducible refine LeO.ite ?_ ?_)
   | (with_reducible refine LeO.bind ?_ (fun _ => ?_))
   | exact ih0 _ _
   | exact ih1 _ _
   | exact ih2 _ _
   | exact ih3 _ _
   | exact ih4 _ _
   | exact ih5 _ _
   | exact LeO.none _
   | refine LeO.ite ?_ ?_
   | refine LeO.bind ?_ (fun _ => ?_)
set_option maxHeartbeats 8000000 in
set_option maxRecDepth 100000 in
theorem tremaref02_Class.calls (k : Nat) (a0 : Int) (r : Int) (w : World) (h : tremaref02_Class.f k a0 = some r) :
  Calls Tryd.prog 29 #[.int .i32 a0] w fun e w' => e = .returned (.int .i64 r) ∧ Drawn0 w w' := by
 have H : ((tremaref02_in.f a0 768 788).bind fun t176 => (if t176 = true then (tremaref02_Class.j1 k a0 t176) else ((tremaref02_in.f a0 829 836).bind fun t177 => (if t177 = true then (tremaref02_Class.j1 k a0 t177) else ((tremaref02_in.f a0 838 838).bind fun t178 => (if t178 = true then (tremaref02_Class.j1 k a0 t178) else ((tremaref02_in.f a0 842 844).bind fun t179 => (if t179 = true then (tremaref02_Class.j0 k a0 true) else ((tremaref02_in.f a0 848 850).bind fun t180 => (tremaref02_Class.j0 k a0 t180)))))))))) = some r := h
 clear h
 replace H := Option.bind_eq_some_iff.mp H
 obtain ⟨t176, A20, H⟩ := H
 replace H : (if t176 = true then (tremaref02_Class.j1 k a0 t176) else ((tremaref02_in.f a0 829 836).bind fun t177 => (if t177 = true then (tremaref02_Class.j1 k a0 t177) else ((tremaref02_in.f a0 838 838).bind fun t178 => (if t178 = true then (tremaref02_Class.j1 k a0 t178) else ((tremaref02_in.f a0 842 844).bind fun t179 => (if t179 = true then (tremaref02_Class.j0 k a0 true) else ((tremaref02_in.f a0 848 850).bind fun t180 => (tremaref02_Class.j0 k a0 t180))))))))) = some r := H
 have A2 := Aside0.mk A20
 clear A20
 have HC3 := Aside0.mk H
 clear H
 go_enter Tryd.func29, Tryd.ntmps29
 go_upto_if 3 with (first | ((with_reducible refine gate_callee (f := 60) rfl ?_); refine goesL_ (some 5) rfl rfl Tryd.func60 (by kernel_rfl) rfl #[.int .i32 a0, .int .i32 768, .int .i32 788] rfl (by (try simp only [List.map_toArray, List.map_cons, List.map_nil]); first | done | rfl | (simp only [List.length_drop, List.length_take]; rfl)) ?_; (with_reducible refine (tremaref02_in.calls a0 768 788 t176 _ A2.out).mono ?_); rintro e w' ⟨rfl, ⟨nd, rfl⟩⟩; refine ⟨_, rfl, ?_⟩))
 (try simp only [Act.put, List.setIfInBounds_toArray, List.set_cons_zero, List.set_cons_succ])
 go_cut [3] (fun v3 wc => ∃ (kq : Nat) (x3_2 : Bool), v3 = .bool x3_2 ∧ Aside0 (tremaref02_Class.j1 kq a0 x3_2 = some r) ∧ Aside0 (kq ≤ k) ∧ Drawn0 w wc)
 case first =>
  have H := HC3.out
  clear HC3
  by_cases c4 : t176 = true
  ·subst c4
   have H1 : (tremaref02_Class.j1 k a0 true) = some r := by rw [if_pos rfl] at H; exact H
   clear H
   have H := H1
   clear H1
   have H' := Aside0.mk H
   clear H
   go_wp2
   go_meet
   case rel => exact ⟨_, (true), (by first | rfl | (simp; done) | (simp [*]; done)), H', ⟨by first | omega | exact Nat.le_refl _⟩, by repeat (first | exact Drawn0.refl _ | apply Drawn0.step)⟩
  ·replace c4 := Bool.eq_false_iff.mpr c4
   subst c4
   have H1 : ((tremaref02_in.f a0 829 836).bind fun t177 => (if t177 = true then (tremaref02_Class.j1 k a0 t177) else ((tremaref02_in.f a0 838 838).bind fun t178 => (if t178 = true then (tremaref02_Class.j1 k a0 t178) else ((tremaref02_in.f a0 842 844).bind fun t179 => (if t179 = true then (tremaref02_Class.j0 k a0 true) else ((tremaref02_in.f a0 848 850).bind fun t180 => (tremaref02_Class.j0 k a0 t180)))))))) = some r := by rw [if_neg (show ¬ (false = true) by decide)] at H; exact H
   clear H
   have H := H1
   clear H1
   replace H := Option.bind_eq_some_iff.mp H
   obtain ⟨t177, A50, H⟩ := H
   replace H : (if t177 = true then (tremaref02_Class.j1 k a0 t177) else ((tremaref02_in.f a0 838 838).bind fun t178 => (if t178 = true then (tremaref02_Class.j1 k a0 t178) else ((tremaref02_in.f a0 842 844).bind fun t179 => (if t179 = true then (tremaref02_Class.j0 k a0 true) else ((tremaref02_in.f a0 848 850).bind fun t180 => (tremaref02_Class.j0 k a0 t180))))))) = some r := H
   have A5 := Aside0.mk A50
   clear A50
   by_cases c6 : t177 = true
   ·subst c6
    have H1 : (tremaref02_Class.j1 k a0 true) = some r := by rw [if_pos rfl] at H; exact H
    clear H
    have H := H1
    clear H1
    have H' := Aside0.mk H
    clear H
    go_wp2_with (first | ((with_reducible refine gate_callee (f := 60) rfl ?_); refine goesL_ (some 7) rfl rfl Tryd.func60 (by kernel_rfl) rfl #[.int .i32 a0, .int .i32 829, .int .i32 836] rfl (by (try simp only [List.map_toArray, List.map_cons, List.map_nil]); first | done | rfl | (simp only [List.length_drop, List.length_take]; rfl)) ?_; (with_reducible refine (tremaref02_in.calls a0 829 836 true _ A5.out).mono ?_); rintro e w' ⟨rfl, ⟨nd, rfl⟩⟩; refine ⟨_, rfl, ?_⟩))
    go_meet
    case rel => exact ⟨_, (true), (by first | rfl | (simp; done) | (simp [*]; done)), H', ⟨by first | omega | exact Nat.le_refl _⟩, by repeat (first | exact Drawn0.refl _ | apply Drawn0.step)⟩
   ·replace c6 := Bool.eq_false_iff.mpr c6
    subst c6
    have H1 : ((tremaref02_in.f a0 838 838).bind fun t178 => (if t178 = true then (tremaref02_Class.j1 k a0 t178) else ((tremaref02_in.f a0 842 844).bind fun t179 => (if t179 = true then (tremaref02_Class.j0 k a0 true) else ((tremaref02_in.f a0 848 850).bind fun t180 => (tremaref02_Class.j0 k a0 t180)))))) = some r := by rw [if_neg (show ¬ (false = true) by decide)] at H; exact H
    clear H
    have H := H1
    clear H1
    replace H := Option.bind_eq_some_iff.mp H
    obtain ⟨t178, A70, H⟩ := H
    replace H : (if t178 = true then (tremaref02_Class.j1 k a0 t178) else ((tremaref02_in.f a0 842 844).bind fun t179 => (if t179 = true then (tremaref02_Class.j0 k a0 true) else ((tremaref02_in.f a0 848 850).bind fun t180 => (tremaref02_Class.j0 k a0 t180))))) = some r := H
    have A7 := Aside0.mk A70
    clear A70
    by_cases c8 : t178 = true
    ·subst c8
     have H1 : (tremaref02_Class.j1 k a0 true) = some r := by rw [if_pos rfl] at H; exact H
     clear H
     have H := H1
     clear H1
     have H' := Aside0.mk H
     clear H
     go_wp2_with (first | ((with_reducible refine gate_callee (f := 60) rfl ?_); refine goesL_ (some 7) rfl rfl Tryd.func60 (by kernel_rfl) rfl #[.int .i32 a0, .int .i32 829, .int .i32 836] rfl (by (try simp only [List.map_toArray, List.map_cons, List.map_nil]); first | done | rfl | (simp only [List.length_drop, List.length_take]; rfl)) ?_; (with_reducible refine (tremaref02_in.calls a0 829 836 false _ A5.out).mono ?_); rintro e w' ⟨rfl, ⟨nd, rfl⟩⟩; refine ⟨_, rfl, ?_⟩) | ((with_reducible refine gate_callee (f := 60) rfl ?_); refine goesL_ (some 9) rfl rfl Tryd.func60 (by kernel_rfl) rfl #[.int .i32 a0, .int .i32 838, .int .i32 838] rfl (by (try simp only [List.map_toArray, List.map_cons, List.map_nil]); first | done | rfl | (simp only [List.length_drop, List.length_take]; rfl)) ?_; (with_reducible refine (tremaref02_in.calls a0 838 838 true _ A7.out).mono ?_); rintro e w' ⟨rfl, ⟨nd, rfl⟩⟩; refine ⟨_, rfl, ?_⟩))
     go_meet
     case rel => exact ⟨_, (true), (by first | rfl | (simp; done) | (simp [*]; done)), H', ⟨by first | omega | exact Nat.le_refl _⟩, by repeat (first | exact Drawn0.refl _ | apply Drawn0.step)⟩
    ·replace c8 := Bool.eq_false_iff.mpr c8
     subst c8
     have H1 : ((tremaref02_in.f a0 842 844).bind fun t179 => (if t179 = true then (tremaref02_Class.j0 k a0 true) else ((tremaref02_in.f a0 848 850).bind fun t180 => (tremaref02_Class.j0 k a0 t180)))) = some r := by rw [if_neg (show ¬ (false = true) by decide)] at H; exact H
     clear H
     have H := H1
     clear H1
     have HC9 := Aside0.mk H
     clear H
     go_upto_region 4 with (first | ((with_reducible refine gate_callee (f := 60) rfl ?_); refine goesL_ (some 7) rfl rfl Tryd.func60 (by kernel_rfl) rfl #[.int .i32 a0, .int .i32 829, .int .i32 836] rfl (by (try simp only [List.map_toArray, List.map_cons, List.map_nil]); first | done | rfl | (simp only [List.length_drop, List.length_take]; rfl)) ?_; (with_reducible refine (tremaref02_in.calls a0 829 836 false _ A5.out).mono ?_); rintro e w' ⟨rfl, ⟨nd, rfl⟩⟩; refine ⟨_, rfl, ?_⟩) | ((with_reducible refine gate_callee (f := 60) rfl ?_); refine goesL_ (some 9) rfl rfl Tryd.func60 (by kernel_rfl) rfl #[.int .i32 a0, .int .i32 838, .int .i32 838] rfl (by (try simp only [List.map_toArray, List.map_cons, List.map_nil]); first | done | rfl | (simp only [List.length_drop, List.length_take]; rfl)) ?_; (with_reducible refine (tremaref02_in.calls a0 838 838 false _ A7.out).mono ?_); rintro e w' ⟨rfl, ⟨nd, rfl⟩⟩; refine ⟨_, rfl, ?_⟩))
     (try simp only [Act.put, List.setIfInBounds_toArray, List.set_cons_zero, List.set_cons_succ])
     go_cut [3] (fun v3 wc => ∃ (kq : Nat) (x3_8 : Bool), v3 = .bool x3_8 ∧ Aside0 (tremaref02_Class.j0 kq a0 x3_8 = some r) ∧ Aside0 (kq ≤ k) ∧ Drawn0 w wc)
     case first =>
      have H := HC9.out
      clear HC9
      replace H := Option.bind_eq_some_iff.mp H
      obtain ⟨t179, A100, H⟩ := H
      replace H : (if t179 = true then (tremaref02_Class.j0 k a0 true) else ((tremaref02_in.f a0 848 850).bind fun t180 => (tremaref02_Class.j0 k a0 t180))) = some r := H
      have A10 := Aside0.mk A100
      clear A100
      by_cases c11 : t179 = true
      ·subst c11
       have H1 : (tremaref02_Class.j0 k a0 true) = some r := by rw [if_pos rfl] at H; exact H
       clear H
       have H := H1
       clear H1
       have H' := Aside0.mk H
       clear H
       go_wp2_with (first | ((with_reducible refine gate_callee (f := 60) rfl ?_); refine goesL_ (some 11) rfl rfl Tryd.func60 (by kernel_rfl) rfl #[.int .i32 a0, .int .i32 842, .int .i32 844] rfl (by (try simp only [List.map_toArray, List.map_cons, List.map_nil]); first | done | rfl | (simp only [List.length_drop, List.length_take]; rfl)) ?_; (with_reducible refine (tremaref02_in.calls a0 842 844 true _ A10.out).mono ?_); rintro e w' ⟨rfl, ⟨nd, rfl⟩⟩; refine ⟨_, rfl, ?_⟩))
       go_meet
       case rel => exact ⟨_, (true), (by first | rfl | (simp; done) | (simp [*]; done)), H', ⟨by first | omega | exact Nat.le_refl _⟩, by repeat (first | exact Drawn0.refl _ | apply Drawn0.step)⟩
      ·replace c11 := Bool.eq_false_iff.mpr c11
       subst c11
       have H1 : ((tremaref02_in.f a0 848 850).bind fun t180 => (tremaref02_Class.j0 k a0 t180)) = some r := by rw [if_neg (show ¬ (false = true) by decide)] at H; exact H
       clear H
       have H := H1
       clear H1
       replace H := Option.bind_eq_some_iff.mp H
       obtain ⟨t180, A120, H⟩ := H
       replace H : (tremaref02_Class.j0 k a0 t180) = some r := H
       have A12 := Aside0.mk A120
       clear A120
       have H' := Aside0.mk H
       clear H
       go_wp2_with (first | ((with_reducible refine gate_callee (f := 60) rfl ?_); refine goesL_ (some 11) rfl rfl Tryd.func60 (by kernel_rfl) rfl #[.int .i32 a0, .int .i32 842, .int .i32 844] rfl (by (try simp only [List.map_toArray, List.map_cons, List.map_nil]); first | done | rfl | (simp only [List.length_drop, List.length_take]; rfl)) ?_; (with_reducible refine (tremaref02_in.calls a0 842 844 false _ A10.out).mono ?_); rintro e w' ⟨rfl, ⟨nd, rfl⟩⟩; refine ⟨_, rfl, ?_⟩) | (go_at_call 60; (with_reducible refine (tremaref02_in.calls a0 848 850 t180 _ A12.out).mono ?_); rintro e w' ⟨rfl, ⟨nd, rfl⟩⟩))
       go_meet
       case rel => exact ⟨_, (t180), (by first | rfl | (simp; done) | (simp [*]; done)), H', ⟨by first | omega | exact Nat.le_refl _⟩, by repeat (first | exact Drawn0.refl _ | apply Drawn0.step)⟩
     case rest =>
      clear HC9
      try clear c1
      try clear c2
      try clear p2
      try clear c4
      try clear c6
      try clear c8
      try clear c11
      obtain ⟨kq, x3_8, rfl, HA, HJ8, ⟨mc8, rfl⟩⟩ := hcut
      cases kq with
      | zero => exact absurd HA.out (by simp [tremaref02_Class.j0])
      | succ kj8 =>
       have H := HA.out
       clear HA
       simp only [tremaref02_Class.j0] at H
       by_cases c13 : x3_8 = true
       ·subst c13
        have H1 : (tremaref02_Class.j1 kj8 a0 true) = some r := by rw [if_pos rfl] at H; exact H
        clear H
        have H := H1
        clear H1
        have H' := Aside0.mk H
        clear H
        go_wp2
        go_meet
        case rel => exact ⟨_, (true), (by first | rfl | (simp; done) | (simp [*]; done)), H', ⟨by have := HJ8.out; first | omega | exact Nat.le_refl _⟩, by repeat (first | exact Drawn0.refl _ | apply Drawn0.step)⟩
       ·replace c13 := Bool.eq_false_iff.mpr c13
        subst c13
        have H1 : ((tremaref02_in.f a0 855 855).bind fun t181 => (if t181 = true then (tremaref02_Class.j1 kj8 a0 t181) else ((tremaref02_in.f a0 8400 8401).bind fun t182 => (tremaref02_Class.j1 kj8 a0 t182)))) = some r := by rw [if_neg (show ¬ (false = true) by decide)] at H; exact H
        clear H
        have H := H1
        clear H1
        replace H := Option.bind_eq_some_iff.mp H
        obtain ⟨t181, A140, H⟩ := H
        replace H : (if t181 = true then (tremaref02_Class.j1 kj8 a0 t181) else ((tremaref02_in.f a0 8400 8401).bind fun t182 => (tremaref02_Class.j1 kj8 a0 t182))) = some r := H
        have A14 := Aside0.mk A140
        clear A140
        by_cases c15 : t181 = true
        ·subst c15
         have H1 : (tremaref02_Class.j1 kj8 a0 true) = some r := by rw [if_pos rfl] at H; exact H
         clear H
         have H := H1
         clear H1
         have H' := Aside0.mk H
         clear H
         go_wp2_with (first | ((with_reducible refine gate_callee (f := 60) rfl ?_); refine goesL_ (some 17) rfl rfl Tryd.func60 (by kernel_rfl) rfl #[.int .i32 a0, .int .i32 855, .int .i32 855] rfl (by (try simp only [List.map_toArray, List.map_cons, List.map_nil]); first | done | rfl | (simp only [List.length_drop, List.length_take]; rfl)) ?_; (with_reducible refine (tremaref02_in.calls a0 855 855 true _ A14.out).mono ?_); rintro e w' ⟨rfl, ⟨nd, rfl⟩⟩; refine ⟨_, rfl, ?_⟩))
         go_meet
         case rel => exact ⟨_, (true), (by first | rfl | (simp; done) | (simp [*]; done)), H', ⟨by have := HJ8.out; first | omega | exact Nat.le_refl _⟩, by repeat (first | exact Drawn0.refl _ | apply Drawn0.step)⟩
        ·replace c15 := Bool.eq_false_iff.mpr c15
         subst c15
         have H1 : ((tremaref02_in.f a0 8400 8401).bind fun t182 => (tremaref02_Class.j1 kj8 a0 t182)) = some r := by rw [if_neg (show ¬ (false = true) by decide)] at H; exact H
         clear H
         have H := H1
         clear H1
         replace H := Option.bind_eq_some_iff.mp H
         obtain ⟨t182, A160, H⟩ := H
         replace H : (tremaref02_Class.j1 kj8 a0 t182) = some r := H
         have A16 := Aside0.mk A160
         clear A160
         have H' := Aside0.mk H
         clear H
         go_wp2_with (first | ((with_reducible refine gate_callee (f := 60) rfl ?_); refine goesL_ (some 17) rfl rfl Tryd.func60 (by kernel_rfl) rfl #[.int .i32 a0, .int .i32 855, .int .i32 855] rfl (by (try simp only [List.map_toArray, List.map_cons, List.map_nil]); first | done | rfl | (simp only [List.length_drop, List.length_take]; rfl)) ?_; (with_reducible refine (tremaref02_in.calls a0 855 855 false _ A14.out).mono ?_); rintro e w' ⟨rfl, ⟨nd, rfl⟩⟩; refine ⟨_, rfl, ?_⟩) | ((with_reducible refine gate_callee (f := 60) rfl ?_); refine goesL_ (some 19) rfl rfl Tryd.func60 (by kernel_rfl) rfl #[.int .i32 a0, .int .i32 8400, .int .i32 8401] rfl (by (try simp only [List.map_toArray, List.map_cons, List.map_nil]); first | done | rfl | (simp only [List.length_drop, List.length_take]; rfl)) ?_; (with_reducible refine (tremaref02_in.calls a0 8400 8401 t182 _ A16.out).mono ?_); rintro e w' ⟨rfl, ⟨nd, rfl⟩⟩; refine ⟨_, rfl, ?_⟩))
         go_meet
         case rel => exact ⟨_, (t182), (by first | rfl | (simp; done) | (simp [*]; done)), H', ⟨by have := HJ8.out; first | omega | exact Nat.le_refl _⟩, by repeat (first | exact Drawn0.refl _ | apply Drawn0.step)⟩
 case rest =>
  clear HC3
  try clear c1
  try clear c2
  try clear p2
  try clear c4
  try clear c6
  try clear c8
  try clear c11
  try clear c13
  try clear c15
  try clear p2
  obtain ⟨kq, x3_2, rfl, HA, HJ2, ⟨mc2, rfl⟩⟩ := hcut
  cases kq with
  | zero => exact absurd HA.out (by simp [tremaref02_Class.j1])
  | succ kj2 =>
   have H := HA.out
   clear HA
   simp only [tremaref02_Class.j1] at H
   by_cases c17 : x3_2 = true
   ·subst c17
    have H1 : (some 230) = some r := by rw [if_pos rfl] at H; exact H
    clear H
    have H := H1
    clear H1
    obtain rfl := Option.some.inj H
    go_wp2
    go_ret
    exact ⟨by first | rfl | (simp; done) | (simp [*]; done), by repeat (first | exact Drawn0.refl _ | apply Drawn0.step)⟩
   ·replace c17 := Bool.eq_false_iff.mpr c17
    subst c17
    have H1 : ((tremaref02_in.f a0 789 789).bind fun t183 => (if t183 = true then (tremaref02_Class.j2 kj2 a0 t183) else ((tremaref02_in.f a0 794 794).bind fun t184 => (tremaref02_Class.j2 kj2 a0 t184)))) = some r := by rw [if_neg (show ¬ (false = true) by decide)] at H; exact H
    clear H
    have H := H1
    clear H1
    replace H := Option.bind_eq_some_iff.mp H
    obtain ⟨t183, A180, H⟩ := H
    replace H : (if t183 = true then (tremaref02_Class.j2 kj2 a0 t183) else ((tremaref02_in.f a0 794 794).bind fun t184 => (tremaref02_Class.j2 kj2 a0 t184))) = some r := H
    have A18 := Aside0.mk A180
    clear A180
    have HC19 := Aside0.mk H
    clear H
    go_upto_if 20 with (first | ((with_reducible refine gate_callee (f := 60) rfl ?_); refine goesL_ (some 22) rfl rfl Tryd.func60 (by kernel_rfl) rfl #[.int .i32 a0, .int .i32 789, .int .i32 789] rfl (by (try simp only [List.map_toArray, List.map_cons, List.map_nil]); first | done | rfl | (simp only [List.length_drop, List.length_take]; rfl)) ?_; (with_reducible refine (tremaref02_in.calls a0 789 789 t183 _ A18.out).mono ?_); rintro e w' ⟨rfl, ⟨nd, rfl⟩⟩; refine ⟨_, rfl, ?_⟩))
    (try simp only [Act.put, List.setIfInBounds_toArray, List.set_cons_zero, List.set_cons_succ])
    go_cut [20] (fun v20 wc => ∃ (kq : Nat) (x20_18 : Bool), v20 = .bool x20_18 ∧ Aside0 (tremaref02_Class.j2 kq a0 x20_18 = some r) ∧ Aside0 (kq ≤ kj2) ∧ Drawn0 w wc)
    case first =>
     have H := HC19.out
     clear HC19
     by_cases c20 : t183 = true
     ·subst c20
      have H1 : (tremaref02_Class.j2 kj2 a0 true) = some r := by rw [if_pos rfl] at H; exact H
      clear H
      have H := H1
      clear H1
      have H' := Aside0.mk H
      clear H
      go_wp2
      go_meet
      case rel => exact ⟨_, (true), (by first | rfl | (simp; done) | (simp [*]; done)), H', ⟨by have := HJ2.out; first | omega | exact Nat.le_refl _⟩, by repeat (first | exact Drawn0.refl _ | apply Drawn0.step)⟩
     ·replace c20 := Bool.eq_false_iff.mpr c20
      subst c20
      have H1 : ((tremaref02_in.f a0 794 794).bind fun t184 => (tremaref02_Class.j2 kj2 a0 t184)) = some r := by rw [if_neg (show ¬ (false = true) by decide)] at H; exact H
      clear H
      have H := H1
      clear H1
      replace H := Option.bind_eq_some_iff.mp H
      obtain ⟨t184, A210, H⟩ := H
      replace H : (tremaref02_Class.j2 kj2 a0 t184) = some r := H
      have A21 := Aside0.mk A210
      clear A210
      have H' := Aside0.mk H
      clear H
      go_wp2_with (first | ((with_reducible refine gate_callee (f := 60) rfl ?_); refine goesL_ (some 24) rfl rfl Tryd.func60 (by kernel_rfl) rfl #[.int .i32 a0, .int .i32 794, .int .i32 794] rfl (by (try simp only [List.map_toArray, List.map_cons, List.map_nil]); first | done | rfl | (simp only [List.length_drop, List.length_take]; rfl)) ?_; (with_reducible refine (tremaref02_in.calls a0 794 794 t184 _ A21.out).mono ?_); rintro e w' ⟨rfl, ⟨nd, rfl⟩⟩; refine ⟨_, rfl, ?_⟩))
      go_meet
      case rel => exact ⟨_, (t184), (by first | rfl | (simp; done) | (simp [*]; done)), H', ⟨by have := HJ2.out; first | omega | exact Nat.le_refl _⟩, by repeat (first | exact Drawn0.refl _ | apply Drawn0.step)⟩
    case rest =>
     clear HC19
     try clear c1
     try clear c2
     try clear p2
     try clear c4
     try clear c6
     try clear c8
     try clear c11
     try clear c13
     try clear c15
     try clear c17
     try clear c20
     try clear p2
     obtain ⟨kq, x20_18, rfl, HA, HJ18, ⟨mc18, rfl⟩⟩ := hcut
     cases kq with
     | zero => exact absurd HA.out (by simp [tremaref02_Class.j2])
     | succ kj18 =>
      have H := HA.out
      clear HA
      simp only [tremaref02_Class.j2] at H
      by_cases c22 : x20_18 = true
      ·subst c22
       have H1 : (some 232) = some r := by rw [if_pos rfl] at H; exact H
       clear H
       have H := H1
       clear H1
       obtain rfl := Option.some.inj H
       go_wp2
       go_ret
       exact ⟨by first | rfl | (simp; done) | (simp [*]; done), by repeat (first | exact Drawn0.refl _ | apply Drawn0.step)⟩
      ·replace c22 := Bool.eq_false_iff.mpr c22
       subst c22
       have H1 : ((tremaref02_in.f a0 790 793).bind fun t185 => (if t185 = true then (tremaref02_Class.j4 kj18 a0 t185) else ((tremaref02_in.f a0 796 800).bind fun t186 => (if t186 = true then (tremaref02_Class.j4 kj18 a0 t186) else ((tremaref02_in.f a0 803 806).bind fun t187 => (if t187 = true then (tremaref02_Class.j4 kj18 a0 t187) else ((tremaref02_in.f a0 809 819).bind fun t188 => (if t188 = true then (tremaref02_Class.j3 kj18 a0 true) else ((tremaref02_in.f a0 825 828).bind fun t189 => (tremaref02_Class.j3 kj18 a0 t189)))))))))) = some r := by rw [if_neg (show ¬ (false = true) by decide)] at H; exact H
       clear H
       have H := H1
       clear H1
       replace H := Option.bind_eq_some_iff.mp H
       obtain ⟨t185, A230, H⟩ := H
       replace H : (if t185 = true then (tremaref02_Class.j4 kj18 a0 t185) else ((tremaref02_in.f a0 796 800).bind fun t186 => (if t186 = true then (tremaref02_Class.j4 kj18 a0 t186) else ((tremaref02_in.f a0 803 806).bind fun t187 => (if t187 = true then (tremaref02_Class.j4 kj18 a0 t187) else ((tremaref02_in.f a0 809 819).bind fun t188 => (if t188 = true then (tremaref02_Class.j3 kj18 a0 true) else ((tremaref02_in.f a0 825 828).bind fun t189 => (tremaref02_Class.j3 kj18 a0 t189))))))))) = some r := H
       have A23 := Aside0.mk A230
       clear A230
       have HC24 := Aside0.mk H
       clear H
       go_upto_if 25 with (first | ((with_reducible refine gate_callee (f := 60) rfl ?_); refine goesL_ (some 27) rfl rfl Tryd.func60 (by kernel_rfl) rfl #[.int .i32 a0, .int .i32 790, .int .i32 793] rfl (by (try simp only [List.map_toArray, List.map_cons, List.map_nil]); first | done | rfl | (simp only [List.length_drop, List.length_take]; rfl)) ?_; (with_reducible refine (tremaref02_in.calls a0 790 793 t185 _ A23.out).mono ?_); rintro e w' ⟨rfl, ⟨nd, rfl⟩⟩; refine ⟨_, rfl, ?_⟩))
       (try simp only [Act.put, List.setIfInBounds_toArray, List.set_cons_zero, List.set_cons_succ])
       go_cut [25] (fun v25 wc => ∃ (kq : Nat) (x25_23 : Bool), v25 = .bool x25_23 ∧ Aside0 (tremaref02_Class.j4 kq a0 x25_23 = some r) ∧ Aside0 (kq ≤ kj18) ∧ Drawn0 w wc)
       case first =>
        have H := HC24.out
        clear HC24
        by_cases c25 : t185 = true
        ·subst c25
         have H1 : (tremaref02_Class.j4 kj18 a0 true) = some r := by rw [if_pos rfl] at H; exact H
         clear H
         have H := H1
         clear H1
         have H' := Aside0.mk H
         clear H
         go_wp2
         go_meet
         case rel => exact ⟨_, (true), (by first | rfl | (simp; done) | (simp [*]; done)), H', ⟨by have := HJ2.out; have := HJ18.out; first | omega | exact Nat.le_refl _⟩, by repeat (first | exact Drawn0.refl _ | apply Drawn0.step)⟩
        ·replace c25 := Bool.eq_false_iff.mpr c25
         subst c25
         have H1 : ((tremaref02_in.f a0 796 800).bind fun t186 => (if t186 = true then (tremaref02_Class.j4 kj18 a0 t186) else ((tremaref02_in.f a0 803 806).bind fun t187 => (if t187 = true then (tremaref02_Class.j4 kj18 a0 t187) else ((tremaref02_in.f a0 809 819).bind fun t188 => (if t188 = true then (tremaref02_Class.j3 kj18 a0 true) else ((tremaref02_in.f a0 825 828).bind fun t189 => (tremaref02_Class.j3 kj18 a0 t189)))))))) = some r := by rw [if_neg (show ¬ (false = true) by decide)] at H; exact H
         clear H
         have H := H1
         clear H1
         replace H := Option.bind_eq_some_iff.mp H
         obtain ⟨t186, A260, H⟩ := H
         replace H : (if t186 = true then (tremaref02_Class.j4 kj18 a0 t186) else ((tremaref02_in.f a0 803 806).bind fun t187 => (if t187 = true then (tremaref02_Class.j4 kj18 a0 t187) else ((tremaref02_in.f a0 809 819).bind fun t188 => (if t188 = true then (tremaref02_Class.j3 kj18 a0 true) else ((tremaref02_in.f a0 825 828).bind fun t189 => (tremaref02_Class.j3 kj18 a0 t189))))))) = some r := H
         have A26 := Aside0.mk A260
         clear A260
         by_cases c27 : t186 = true
         ·subst c27
          have H1 : (tremaref02_Class.j4 kj18 a0 true) = some r := by rw [if_pos rfl] at H; exact H
          clear H
          have H := H1
          clear H1
          have H' := Aside0.mk H
          clear H
          go_wp2_with (first | ((with_reducible refine gate_callee (f := 60) rfl ?_); refine goesL_ (some 29) rfl rfl Tryd.func60 (by kernel_rfl) rfl #[.int .i32 a0, .int .i32 796, .int .i32 800] rfl (by (try simp only [List.map_toArray, List.map_cons, List.map_nil]); first | done | rfl | (simp only [List.length_drop, List.length_take]; rfl)) ?_; (with_reducible refine (tremaref02_in.calls a0 796 800 true _ A26.out).mono ?_); rintro e w' ⟨rfl, ⟨nd, rfl⟩⟩; refine ⟨_, rfl, ?_⟩))
          go_meet
          case rel => exact ⟨_, (true), (by first | rfl | (simp; done) | (simp [*]; done)), H', ⟨by have := HJ2.out; have := HJ18.out; first | omega | exact Nat.le_refl _⟩, by repeat (first | exact Drawn0.refl _ | apply Drawn0.step)⟩
         ·replace c27 := Bool.eq_false_iff.mpr c27
          subst c27
          have H1 : ((tremaref02_in.f a0 803 806).bind fun t187 => (if t187 = true then (tremaref02_Class.j4 kj18 a0 t187) else ((tremaref02_in.f a0 809 819).bind fun t188 => (if t188 = true then (tremaref02_Class.j3 kj18 a0 true) else ((tremaref02_in.f a0 825 828).bind fun t189 => (tremaref02_Class.j3 kj18 a0 t189)))))) = some r := by rw [if_neg (show ¬ (false = true) by decide)] at H; exact H
          clear H
          have H := H1
          clear H1
          replace H := Option.bind_eq_some_iff.mp H
          obtain ⟨t187, A280, H⟩ := H
          replace H : (if t187 = true then (tremaref02_Class.j4 kj18 a0 t187) else ((tremaref02_in.f a0 809 819).bind fun t188 => (if t188 = true then (tremaref02_Class.j3 kj18 a0 true) else ((tremaref02_in.f a0 825 828).bind fun t189 => (tremaref02_Class.j3 kj18 a0 t189))))) = some r := H
          have A28 := Aside0.mk A280
          clear A280
          by_cases c29 : t187 = true
          ·subst c29
           have H1 : (tremaref02_Class.j4 kj18 a0 true) = some r := by rw [if_pos rfl] at H; exact H
           clear H
           have H := H1
           clear H1
           have H' := Aside0.mk H
           clear H
           go_wp2_with (first | ((with_reducible refine gate_callee (f := 60) rfl ?_); refine goesL_ (some 29) rfl rfl Tryd.func60 (by kernel_rfl) rfl #[.int .i32 a0, .int .i32 796, .int .i32 800] rfl (by (try simp only [List.map_toArray, List.map_cons, List.map_nil]); first | done | rfl | (simp only [List.length_drop, List.length_take]; rfl)) ?_; (with_reducible refine (tremaref02_in.calls a0 796 800 false _ A26.out).mono ?_); rintro e w' ⟨rfl, ⟨nd, rfl⟩⟩; refine ⟨_, rfl, ?_⟩) | ((with_reducible refine gate_callee (f := 60) rfl ?_); refine goesL_ (some 31) rfl rfl Tryd.func60 (by kernel_rfl) rfl #[.int .i32 a0, .int .i32 803, .int .i32 806] rfl (by (try simp only [List.map_toArray, List.map_cons, List.map_nil]); first | done | rfl | (simp only [List.length_drop, List.length_take]; rfl)) ?_; (with_reducible refine (tremaref02_in.calls a0 803 806 true _ A28.out).mono ?_); rintro e w' ⟨rfl, ⟨nd, rfl⟩⟩; refine ⟨_, rfl, ?_⟩))
           go_meet
           case rel => exact ⟨_, (true), (by first | rfl | (simp; done) | (simp [*]; done)), H', ⟨by have := HJ2.out; have := HJ18.out; first | omega | exact Nat.le_refl _⟩, by repeat (first | exact Drawn0.refl _ | apply Drawn0.step)⟩
          ·replace c29 := Bool.eq_false_iff.mpr c29
           subst c29
           have H1 : ((tremaref02_in.f a0 809 819).bind fun t188 => (if t188 = true then (tremaref02_Class.j3 kj18 a0 true) else ((tremaref02_in.f a0 825 828).bind fun t189 => (tremaref02_Class.j3 kj18 a0 t189)))) = some r := by rw [if_neg (show ¬ (false = true) by decide)] at H; exact H
           clear H
           have H := H1
           clear H1
           have HC30 := Aside0.mk H
           clear H
           go_upto_region 14 with (first | ((with_reducible refine gate_callee (f := 60) rfl ?_); refine goesL_ (some 29) rfl rfl Tryd.func60 (by kernel_rfl) rfl #[.int .i32 a0, .int .i32 796, .int .i32 800] rfl (by (try simp only [List.map_toArray, List.map_cons, List.map_nil]); first | done | rfl | (simp only [List.length_drop, List.length_take]; rfl)) ?_; (with_reducible refine (tremaref02_in.calls a0 796 800 false _ A26.out).mono ?_); rintro e w' ⟨rfl, ⟨nd, rfl⟩⟩; refine ⟨_, rfl, ?_⟩) | ((with_reducible refine gate_callee (f := 60) rfl ?_); refine goesL_ (some 31) rfl rfl Tryd.func60 (by kernel_rfl) rfl #[.int .i32 a0, .int .i32 803, .int .i32 806] rfl (by (try simp only [List.map_toArray, List.map_cons, List.map_nil]); first | done | rfl | (simp only [List.length_drop, List.length_take]; rfl)) ?_; (with_reducible refine (tremaref02_in.calls a0 803 806 false _ A28.out).mono ?_); rintro e w' ⟨rfl, ⟨nd, rfl⟩⟩; refine ⟨_, rfl, ?_⟩))
           (try simp only [Act.put, List.setIfInBounds_toArray, List.set_cons_zero, List.set_cons_succ])
           go_cut [25] (fun v25 wc => ∃ (kq : Nat) (x25_29 : Bool), v25 = .bool x25_29 ∧ Aside0 (tremaref02_Class.j3 kq a0 x25_29 = some r) ∧ Aside0 (kq ≤ kj18) ∧ Drawn0 w wc)
           case first =>
            have H := HC30.out
            clear HC30
            replace H := Option.bind_eq_some_iff.mp H
            obtain ⟨t188, A310, H⟩ := H
            replace H : (if t188 = true then (tremaref02_Class.j3 kj18 a0 true) else ((tremaref02_in.f a0 825 828).bind fun t189 => (tremaref02_Class.j3 kj18 a0 t189))) = some r := H
            have A31 := Aside0.mk A310
            clear A310
            by_cases c32 : t188 = true
            ·subst c32
             have H1 : (tremaref02_Class.j3 kj18 a0 true) = some r := by rw [if_pos rfl] at H; exact H
             clear H
             have H := H1
             clear H1
             have H' := Aside0.mk H
             clear H
             go_wp2_with (first | ((with_reducible refine gate_callee (f := 60) rfl ?_); refine goesL_ (some 33) rfl rfl Tryd.func60 (by kernel_rfl) rfl #[.int .i32 a0, .int .i32 809, .int .i32 819] rfl (by (try simp only [List.map_toArray, List.map_cons, List.map_nil]); first | done | rfl | (simp only [List.length_drop, List.length_take]; rfl)) ?_; (with_reducible refine (tremaref02_in.calls a0 809 819 true _ A31.out).mono ?_); rintro e w' ⟨rfl, ⟨nd, rfl⟩⟩; refine ⟨_, rfl, ?_⟩))
             go_meet
             case rel => exact ⟨_, (true), (by first | rfl | (simp; done) | (simp [*]; done)), H', ⟨by have := HJ2.out; have := HJ18.out; first | omega | exact Nat.le_refl _⟩, by repeat (first | exact Drawn0.refl _ | apply Drawn0.step)⟩
            ·replace c32 := Bool.eq_false_iff.mpr c32
             subst c32
             have H1 : ((tremaref02_in.f a0 825 828).bind fun t189 => (tremaref02_Class.j3 kj18 a0 t189)) = some r := by rw [if_neg (show ¬ (false = true) by decide)] at H; exact H
             clear H
             have H := H1
             clear H1
             replace H := Option.bind_eq_some_iff.mp H
             obtain ⟨t189, A330, H⟩ := H
             replace H : (tremaref02_Class.j3 kj18 a0 t189) = some r := H
             have A33 := Aside0.mk A330
             clear A330
             have H' := Aside0.mk H
             clear H
             go_wp2_with (first | ((with_reducible refine gate_callee (f := 60) rfl ?_); refine goesL_ (some 33) rfl rfl Tryd.func60 (by kernel_rfl) rfl #[.int .i32 a0, .int .i32 809, .int .i32 819] rfl (by (try simp only [List.map_toArray, List.map_cons, List.map_nil]); first | done | rfl | (simp only [List.length_drop, List.length_take]; rfl)) ?_; (with_reducible refine (tremaref02_in.calls a0 809 819 false _ A31.out).mono ?_); rintro e w' ⟨rfl, ⟨nd, rfl⟩⟩; refine ⟨_, rfl, ?_⟩) | (go_at_call 60; (with_reducible refine (tremaref02_in.calls a0 825 828 t189 _ A33.out).mono ?_); rintro e w' ⟨rfl, ⟨nd, rfl⟩⟩))
             go_meet
             case rel => exact ⟨_, (t189), (by first | rfl | (simp; done) | (simp [*]; done)), H', ⟨by have := HJ2.out; have := HJ18.out; first | omega | exact Nat.le_refl _⟩, by repeat (first | exact Drawn0.refl _ | apply Drawn0.step)⟩
           case rest =>
            clear HC30
            try clear c1
            try clear c2
            try clear p2
            try clear c3
            try clear c4
            try clear c6
            try clear c8
            try clear c11
            try clear c13
            try clear c15
            try clear c17
            try clear c18
            try clear c20
            try clear c22
            try clear c25
            try clear c27
            try clear c29
            try clear c32
            try clear p2
            obtain ⟨kq, x25_29, rfl, HA, HJ29, ⟨mc29, rfl⟩⟩ := hcut
            cases kq with
            | zero => exact absurd HA.out (by simp [tremaref02_Class.j3])
            | succ kj29 =>
             have H := HA.out
             clear HA
             simp only [tremaref02_Class.j3] at H
             by_cases c34 : x25_29 = true
             ·subst c34
              have H1 : (tremaref02_Class.j4 kj29 a0 true) = some r := by rw [if_pos rfl] at H; exact H
              clear H
              have H := H1
              clear H1
              have H' := Aside0.mk H
              clear H
              go_wp2
              go_meet
              case rel => exact ⟨_, (true), (by first | rfl | (simp; done) | (simp [*]; done)), H', ⟨by have := HJ2.out; have := HJ18.out; have := HJ29.out; first | omega | exact Nat.le_refl _⟩, by repeat (first | exact Drawn0.refl _ | apply Drawn0.step)⟩
             ·replace c34 := Bool.eq_false_iff.mpr c34
              subst c34
              have H1 : ((tremaref02_in.f a0 839 841).bind fun t190 => (if t190 = true then (tremaref02_Class.j4 kj29 a0 t190) else ((tremaref02_in.f a0 845 846).bind fun t191 => (if t191 = true then (tremaref02_Class.j4 kj29 a0 t191) else ((tremaref02_in.f a0 851 854).bind fun t192 => (tremaref02_Class.j4 kj29 a0 t192)))))) = some r := by rw [if_neg (show ¬ (false = true) by decide)] at H; exact H
              clear H
              have H := H1
              clear H1
              replace H := Option.bind_eq_some_iff.mp H
              obtain ⟨t190, A350, H⟩ := H
              replace H : (if t190 = true then (tremaref02_Class.j4 kj29 a0 t190) else ((tremaref02_in.f a0 845 846).bind fun t191 => (if t191 = true then (tremaref02_Class.j4 kj29 a0 t191) else ((tremaref02_in.f a0 851 854).bind fun t192 => (tremaref02_Class.j4 kj29 a0 t192))))) = some r := H
              have A35 := Aside0.mk A350
              clear A350
              by_cases c36 : t190 = true
              ·subst c36
               have H1 : (tremaref02_Class.j4 kj29 a0 true) = some r := by rw [if_pos rfl] at H; exact H
               clear H
               have H := H1
               clear H1
               have H' := Aside0.mk H
               clear H
               go_wp2_with (first | ((with_reducible refine gate_callee (f := 60) rfl ?_); refine goesL_ (some 39) rfl rfl Tryd.func60 (by kernel_rfl) rfl #[.int .i32 a0, .int .i32 839, .int .i32 841] rfl (by (try simp only [List.map_toArray, List.map_cons, List.map_nil]); first | done | rfl | (simp only [List.length_drop, List.length_take]; rfl)) ?_; (with_reducible refine (tremaref02_in.calls a0 839 841 true _ A35.out).mono ?_); rintro e w' ⟨rfl, ⟨nd, rfl⟩⟩; refine ⟨_, rfl, ?_⟩))
               go_meet
               case rel => exact ⟨_, (true), (by first | rfl | (simp; done) | (simp [*]; done)), H', ⟨by have := HJ2.out; have := HJ18.out; have := HJ29.out; first | omega | exact Nat.le_refl _⟩, by repeat (first | exact Drawn0.refl _ | apply Drawn0.step)⟩
              ·replace c36 := Bool.eq_false_iff.mpr c36
               subst c36
               have H1 : ((tremaref02_in.f a0 845 846).bind fun t191 => (if t191 = true then (tremaref02_Class.j4 kj29 a0 t191) else ((tremaref02_in.f a0 851 854).bind fun t192 => (tremaref02_Class.j4 kj29 a0 t192)))) = some r := by rw [if_neg (show ¬ (false = true) by decide)] at H; exact H
               clear H
               have H := H1
               clear H1
               replace H := Option.bind_eq_some_iff.mp H
               obtain ⟨t191, A370, H⟩ := H
               replace H : (if t191 = true then (tremaref02_Class.j4 kj29 a0 t191) else ((tremaref02_in.f a0 851 854).bind fun t192 => (tremaref02_Class.j4 kj29 a0 t192))) = some r := H
               have A37 := Aside0.mk A370
               clear A370
               by_cases c38 : t191 = true
               ·subst c38
                have H1 : (tremaref02_Class.j4 kj29 a0 true) = some r := by rw [if_pos rfl] at H; exact H
                clear H
                have H := H1
                clear H1
                have H' := Aside0.mk H
                clear H
                go_wp2_with (first | ((with_reducible refine gate_callee (f := 60) rfl ?_); refine goesL_ (some 39) rfl rfl Tryd.func60 (by kernel_rfl) rfl #[.int .i32 a0, .int .i32 839, .int .i32 841] rfl (by (try simp only [List.map_toArray, List.map_cons, List.map_nil]); first | done | rfl | (simp only [List.length_drop, List.length_take]; rfl)) ?_; (with_reducible refine (tremaref02_in.calls a0 839 841 false _ A35.out).mono ?_); rintro e w' ⟨rfl, ⟨nd, rfl⟩⟩; refine ⟨_, rfl, ?_⟩) | ((with_reducible refine gate_callee (f := 60) rfl ?_); refine goesL_ (some 41) rfl rfl Tryd.func60 (by kernel_rfl) rfl #[.int .i32 a0, .int .i32 845, .int .i32 846] rfl (by (try simp only [List.map_toArray, List.map_cons, List.map_nil]); first | done | rfl | (simp only [List.length_drop, List.length_take]; rfl)) ?_; (with_reducible refine (tremaref02_in.calls a0 845 846 true _ A37.out).mono ?_); rintro e w' ⟨rfl, ⟨nd, rfl⟩⟩; refine ⟨_, rfl, ?_⟩))
                go_meet
                case rel => exact ⟨_, (true), (by first | rfl | (simp; done) | (simp [*]; done)), H', ⟨by have := HJ2.out; have := HJ18.out; have := HJ29.out; first | omega | exact Nat.le_refl _⟩, by repeat (first | exact Drawn0.refl _ | apply Drawn0.step)⟩
               ·replace c38 := Bool.eq_false_iff.mpr c38
                subst c38
                have H1 : ((tremaref02_in.f a0 851 854).bind fun t192 => (tremaref02_Class.j4 kj29 a0 t192)) = some r := by rw [if_neg (show ¬ (false = true) by decide)] at H; exact H
                clear H
                have H := H1
                clear H1
                replace H := Option.bind_eq_some_iff.mp H
                obtain ⟨t192, A390, H⟩ := H
                replace H : (tremaref02_Class.j4 kj29 a0 t192) = some r := H
                have A39 := Aside0.mk A390
                clear A390
                have H' := Aside0.mk H
                clear H
                go_wp2_with (first | ((with_reducible refine gate_callee (f := 60) rfl ?_); refine goesL_ (some 39) rfl rfl Tryd.func60 (by kernel_rfl) rfl #[.int .i32 a0, .int .i32 839, .int .i32 841] rfl (by (try simp only [List.map_toArray, List.map_cons, List.map_nil]); first | done | rfl | (simp only [List.length_drop, List.length_take]; rfl)) ?_; (with_reducible refine (tremaref02_in.calls a0 839 841 false _ A35.out).mono ?_); rintro e w' ⟨rfl, ⟨nd, rfl⟩⟩; refine ⟨_, rfl, ?_⟩) | ((with_reducible refine gate_callee (f := 60) rfl ?_); refine goesL_ (some 41) rfl rfl Tryd.func60 (by kernel_rfl) rfl #[.int .i32 a0, .int .i32 845, .int .i32 846] rfl (by (try simp only [List.map_toArray, List.map_cons, List.map_nil]); first | done | rfl | (simp only [List.length_drop, List.length_take]; rfl)) ?_; (with_reducible refine (tremaref02_in.calls a0 845 846 false _ A37.out).mono ?_); rintro e w' ⟨rfl, ⟨nd, rfl⟩⟩; refine ⟨_, rfl, ?_⟩) | ((with_reducible refine gate_callee (f := 60) rfl ?_); refine goesL_ (some 43) rfl rfl Tryd.func60 (by kernel_rfl) rfl #[.int .i32 a0, .int .i32 851, .int .i32 854] rfl (by (try simp only [List.map_toArray, List.map_cons, List.map_nil]); first | done | rfl | (simp only [List.length_drop, List.length_take]; rfl)) ?_; (with_reducible refine (tremaref02_in.calls a0 851 854 t192 _ A39.out).mono ?_); rintro e w' ⟨rfl, ⟨nd, rfl⟩⟩; refine ⟨_, rfl, ?_⟩))
                go_meet
                case rel => exact ⟨_, (t192), (by first | rfl | (simp; done) | (simp [*]; done)), H', ⟨by have := HJ2.out; have := HJ18.out; have := HJ29.out; first | omega | exact Nat.le_refl _⟩, by repeat (first | exact Drawn0.refl _ | apply Drawn0.step)⟩
       case rest =>
        clear HC24
        try clear c1
        try clear c2
        try clear p2
        try clear c3
        try clear c4
        try clear c6
        try clear c8
        try clear c11
        try clear c13
        try clear c15
        try clear c17
        try clear c18
        try clear c20
        try clear c22
        try clear c25
        try clear c27
        try clear c29
        try clear c32
        try clear c34
        try clear c36
        try clear c38
        try clear p2
        obtain ⟨kq, x25_23, rfl, HA, HJ23, ⟨mc23, rfl⟩⟩ := hcut
        cases kq with
        | zero => exact absurd HA.out (by simp [tremaref02_Class.j4])
        | succ kj23 =>
         have H := HA.out
         clear HA
         simp only [tremaref02_Class.j4] at H
         by_cases c40 : x25_23 = true
         ·subst c40
          have H1 : (some 220) = some r := by rw [if_pos rfl] at H; exact H
          clear H
          have H := H1
          clear H1
          obtain rfl := Option.some.inj H
          go_wp2
          go_ret
          exact ⟨by first | rfl | (simp; done) | (simp [*]; done), by repeat (first | exact Drawn0.refl _ | apply Drawn0.step)⟩
         ·replace c40 := Bool.eq_false_iff.mpr c40
          subst c40
          have H1 : ((tremaref02_in.f a0 795 795).bind fun t193 => (if t193 = true then (some 216) else ((tremaref02_in.f a0 801 802).bind fun t194 => (if t194 = true then (tremaref02_Class.j5 kj23 a0 t194) else ((tremaref02_in.f a0 807 808).bind fun t195 => (tremaref02_Class.j5 kj23 a0 t195)))))) = some r := by rw [if_neg (show ¬ (false = true) by decide)] at H; exact H
          clear H
          have H := H1
          clear H1
          replace H := Option.bind_eq_some_iff.mp H
          obtain ⟨t193, A410, H⟩ := H
          replace H : (if t193 = true then (some 216) else ((tremaref02_in.f a0 801 802).bind fun t194 => (if t194 = true then (tremaref02_Class.j5 kj23 a0 t194) else ((tremaref02_in.f a0 807 808).bind fun t195 => (tremaref02_Class.j5 kj23 a0 t195))))) = some r := H
          have A41 := Aside0.mk A410
          clear A410
          by_cases c42 : t193 = true
          ·subst c42
           have H1 : (some 216) = some r := by rw [if_pos rfl] at H; exact H
           clear H
           have H := H1
           clear H1
           obtain rfl := Option.some.inj H
           go_wp2_with (first | ((with_reducible refine gate_callee (f := 60) rfl ?_); refine goesL_ (some 46) rfl rfl Tryd.func60 (by kernel_rfl) rfl #[.int .i32 a0, .int .i32 795, .int .i32 795] rfl (by (try simp only [List.map_toArray, List.map_cons, List.map_nil]); first | done | rfl | (simp only [List.length_drop, List.length_take]; rfl)) ?_; (with_reducible refine (tremaref02_in.calls a0 795 795 true _ A41.out).mono ?_); rintro e w' ⟨rfl, ⟨nd, rfl⟩⟩; refine ⟨_, rfl, ?_⟩))
           go_ret
           exact ⟨by first | rfl | (simp; done) | (simp [*]; done), by repeat (first | exact Drawn0.refl _ | apply Drawn0.step)⟩
          ·replace c42 := Bool.eq_false_iff.mpr c42
           subst c42
           have H1 : ((tremaref02_in.f a0 801 802).bind fun t194 => (if t194 = true then (tremaref02_Class.j5 kj23 a0 t194) else ((tremaref02_in.f a0 807 808).bind fun t195 => (tremaref02_Class.j5 kj23 a0 t195)))) = some r := by rw [if_neg (show ¬ (false = true) by decide)] at H; exact H
           clear H
           have H := H1
           clear H1
           replace H := Option.bind_eq_some_iff.mp H
           obtain ⟨t194, A430, H⟩ := H
           replace H : (if t194 = true then (tremaref02_Class.j5 kj23 a0 t194) else ((tremaref02_in.f a0 807 808).bind fun t195 => (tremaref02_Class.j5 kj23 a0 t195))) = some r := H
           have A43 := Aside0.mk A430
           clear A430
           have HC44 := Aside0.mk H
           clear H
           go_upto_if 47 with (first | ((with_reducible refine gate_callee (f := 60) rfl ?_); refine goesL_ (some 46) rfl rfl Tryd.func60 (by kernel_rfl) rfl #[.int .i32 a0, .int .i32 795, .int .i32 795] rfl (by (try simp only [List.map_toArray, List.map_cons, List.map_nil]); first | done | rfl | (simp only [List.length_drop, List.length_take]; rfl)) ?_; (with_reducible refine (tremaref02_in.calls a0 795 795 false _ A41.out).mono ?_); rintro e w' ⟨rfl, ⟨nd, rfl⟩⟩; refine ⟨_, rfl, ?_⟩) | ((with_reducible refine gate_callee (f := 60) rfl ?_); refine goesL_ (some 49) rfl rfl Tryd.func60 (by kernel_rfl) rfl #[.int .i32 a0, .int .i32 801, .int .i32 802] rfl (by (try simp only [List.map_toArray, List.map_cons, List.map_nil]); first | done | rfl | (simp only [List.length_drop, List.length_take]; rfl)) ?_; (with_reducible refine (tremaref02_in.calls a0 801 802 t194 _ A43.out).mono ?_); rintro e w' ⟨rfl, ⟨nd, rfl⟩⟩; refine ⟨_, rfl, ?_⟩))
           (try simp only [Act.put, List.setIfInBounds_toArray, List.set_cons_zero, List.set_cons_succ])
           go_cut [47] (fun v47 wc => ∃ (kq : Nat) (x47_43 : Bool), v47 = .bool x47_43 ∧ Aside0 (tremaref02_Class.j5 kq a0 x47_43 = some r) ∧ Aside0 (kq ≤ kj23) ∧ Drawn0 w wc)
           case first =>
            have H := HC44.out
            clear HC44
            by_cases c45 : t194 = true
            ·subst c45
             have H1 : (tremaref02_Class.j5 kj23 a0 true) = some r := by rw [if_pos rfl] at H; exact H
             clear H
             have H := H1
             clear H1
             have H' := Aside0.mk H
             clear H
             go_wp2
             go_meet
             case rel => exact ⟨_, (true), (by first | rfl | (simp; done) | (simp [*]; done)), H', ⟨by have := HJ2.out; have := HJ18.out; have := HJ23.out; first | omega | exact Nat.le_refl _⟩, by repeat (first | exact Drawn0.refl _ | apply Drawn0.step)⟩
            ·replace c45 := Bool.eq_false_iff.mpr c45
             subst c45
             have H1 : ((tremaref02_in.f a0 807 808).bind fun t195 => (tremaref02_Class.j5 kj23 a0 t195)) = some r := by rw [if_neg (show ¬ (false = true) by decide)] at H; exact H
             clear H
             have H := H1
             clear H1
             replace H := Option.bind_eq_some_iff.mp H
             obtain ⟨t195, A460, H⟩ := H
             replace H : (tremaref02_Class.j5 kj23 a0 t195) = some r := H
             have A46 := Aside0.mk A460
             clear A460
             have H' := Aside0.mk H
             clear H
             go_wp2_with (first | ((with_reducible refine gate_callee (f := 60) rfl ?_); refine goesL_ (some 51) rfl rfl Tryd.func60 (by kernel_rfl) rfl #[.int .i32 a0, .int .i32 807, .int .i32 808] rfl (by (try simp only [List.map_toArray, List.map_cons, List.map_nil]); first | done | rfl | (simp only [List.length_drop, List.length_take]; rfl)) ?_; (with_reducible refine (tremaref02_in.calls a0 807 808 t195 _ A46.out).mono ?_); rintro e w' ⟨rfl, ⟨nd, rfl⟩⟩; refine ⟨_, rfl, ?_⟩))
             go_meet
             case rel => exact ⟨_, (t195), (by first | rfl | (simp; done) | (simp [*]; done)), H', ⟨by have := HJ2.out; have := HJ18.out; have := HJ23.out; first | omega | exact Nat.le_refl _⟩, by repeat (first | exact Drawn0.refl _ | apply Drawn0.step)⟩
           case rest =>
            clear HC44
            try clear c1
            try clear c2
            try clear p2
            try clear c3
            try clear c4
            try clear c6
            try clear c8
            try clear c11
            try clear c13
            try clear c15
            try clear c17
            try clear c18
            try clear c20
            try clear c22
            try clear c23
            try clear c25
            try clear c27
            try clear c29
            try clear c32
            try clear c34
            try clear c36
            try clear c38
            try clear c40
            try clear c42
            try clear c45
            try clear p2
            obtain ⟨kq, x47_43, rfl, HA, HJ43, ⟨mc43, rfl⟩⟩ := hcut
            cases kq with
            | zero => exact absurd HA.out (by simp [tremaref02_Class.j5])
            | succ kj43 =>
             have H := HA.out
             clear HA
             simp only [tremaref02_Class.j5] at H
             by_cases c47 : x47_43 = true
             ·subst c47
              have H1 : (some 202) = some r := by rw [if_pos rfl] at H; exact H
              clear H
              have H := H1
              clear H1
              obtain rfl := Option.some.inj H
              go_wp2
              go_ret
              exact ⟨by first | rfl | (simp; done) | (simp [*]; done), by repeat (first | exact Drawn0.refl _ | apply Drawn0.step)⟩
             ·replace c47 := Bool.eq_false_iff.mpr c47
              subst c47
              have H1 : ((tremaref02_in.f a0 820 824).bind fun t196 => (if t196 = true then (some 1) else ((tremaref02_in.f a0 837 837).bind fun t197 => (if t197 = true then (some 240) else ((tremaref02_in.f a0 12441 12442).bind fun t198 => (if t198 = true then (some 8) else (some 0))))))) = some r := by rw [if_neg (show ¬ (false = true) by decide)] at H; exact H
              clear H
              have H := H1
              clear H1
              replace H := Option.bind_eq_some_iff.mp H
              obtain ⟨t196, A480, H⟩ := H
              replace H : (if t196 = true then (some 1) else ((tremaref02_in.f a0 837 837).bind fun t197 => (if t197 = true then (some 240) else ((tremaref02_in.f a0 12441 12442).bind fun t198 => (if t198 = true then (some 8) else (some 0)))))) = some r := H
              have A48 := Aside0.mk A480
              clear A480
              by_cases c49 : t196 = true
              ·subst c49
               have H1 : (some 1) = some r := by rw [if_pos rfl] at H; exact H
               clear H
               have H := H1
               clear H1
               obtain rfl := Option.some.inj H
               go_wp2_with (first | ((with_reducible refine gate_callee (f := 60) rfl ?_); refine goesL_ (some 54) rfl rfl Tryd.func60 (by kernel_rfl) rfl #[.int .i32 a0, .int .i32 820, .int .i32 824] rfl (by (try simp only [List.map_toArray, List.map_cons, List.map_nil]); first | done | rfl | (simp only [List.length_drop, List.length_take]; rfl)) ?_; (with_reducible refine (tremaref02_in.calls a0 820 824 true _ A48.out).mono ?_); rintro e w' ⟨rfl, ⟨nd, rfl⟩⟩; refine ⟨_, rfl, ?_⟩))
               go_ret
               exact ⟨by first | rfl | (simp; done) | (simp [*]; done), by repeat (first | exact Drawn0.refl _ | apply Drawn0.step)⟩
              ·replace c49 := Bool.eq_false_iff.mpr c49
               subst c49
               have H1 : ((tremaref02_in.f a0 837 837).bind fun t197 => (if t197 = true then (some 240) else ((tremaref02_in.f a0 12441 12442).bind fun t198 => (if t198 = true then (some 8) else (some 0))))) = some r := by rw [if_neg (show ¬ (false = true) by decide)] at H; exact H
               clear H
               have H := H1
               clear H1
               replace H := Option.bind_eq_some_iff.mp H
               obtain ⟨t197, A500, H⟩ := H
               replace H : (if t197 = true then (some 240) else ((tremaref02_in.f a0 12441 12442).bind fun t198 => (if t198 = true then (some 8) else (some 0)))) = some r := H
               have A50 := Aside0.mk A500
               clear A500
               by_cases c51 : t197 = true
               ·subst c51
                have H1 : (some 240) = some r := by rw [if_pos rfl] at H; exact H
                clear H
                have H := H1
                clear H1
                obtain rfl := Option.some.inj H
                go_wp2_with (first | ((with_reducible refine gate_callee (f := 60) rfl ?_); refine goesL_ (some 54) rfl rfl Tryd.func60 (by kernel_rfl) rfl #[.int .i32 a0, .int .i32 820, .int .i32 824] rfl (by (try simp only [List.map_toArray, List.map_cons, List.map_nil]); first | done | rfl | (simp only [List.length_drop, List.length_take]; rfl)) ?_; (with_reducible refine (tremaref02_in.calls a0 820 824 false _ A48.out).mono ?_); rintro e w' ⟨rfl, ⟨nd, rfl⟩⟩; refine ⟨_, rfl, ?_⟩) | ((with_reducible refine gate_callee (f := 60) rfl ?_); refine goesL_ (some 57) rfl rfl Tryd.func60 (by kernel_rfl) rfl #[.int .i32 a0, .int .i32 837, .int .i32 837] rfl (by (try simp only [List.map_toArray, List.map_cons, List.map_nil]); first | done | rfl | (simp only [List.length_drop, List.length_take]; rfl)) ?_; (with_reducible refine (tremaref02_in.calls a0 837 837 true _ A50.out).mono ?_); rintro e w' ⟨rfl, ⟨nd, rfl⟩⟩; refine ⟨_, rfl, ?_⟩))
                go_ret
                exact ⟨by first | rfl | (simp; done) | (simp [*]; done), by repeat (first | exact Drawn0.refl _ | apply Drawn0.step)⟩
               ·replace c51 := Bool.eq_false_iff.mpr c51
                subst c51
                have H1 : ((tremaref02_in.f a0 12441 12442).bind fun t198 => (if t198 = true then (some 8) else (some 0))) = some r := by rw [if_neg (show ¬ (false = true) by decide)] at H; exact H
                clear H
                have H := H1
                clear H1
                replace H := Option.bind_eq_some_iff.mp H
                obtain ⟨t198, A520, H⟩ := H
                replace H : (if t198 = true then (some 8) else (some 0)) = some r := H
                have A52 := Aside0.mk A520
                clear A520
                by_cases c53 : t198 = true
                ·subst c53
                 have H1 : (some 8) = some r := by rw [if_pos rfl] at H; exact H
                 clear H
                 have H := H1
                 clear H1
                 obtain rfl := Option.some.inj H
                 go_wp2_with (first | ((with_reducible refine gate_callee (f := 60) rfl ?_); refine goesL_ (some 54) rfl rfl Tryd.func60 (by kernel_rfl) rfl #[.int .i32 a0, .int .i32 820, .int .i32 824] rfl (by (try simp only [List.map_toArray, List.map_cons, List.map_nil]); first | done | rfl | (simp only [List.length_drop, List.length_take]; rfl)) ?_; (with_reducible refine (tremaref02_in.calls a0 820 824 false _ A48.out).mono ?_); rintro e w' ⟨rfl, ⟨nd, rfl⟩⟩; refine ⟨_, rfl, ?_⟩) | ((with_reducible refine gate_callee (f := 60) rfl ?_); refine goesL_ (some 57) rfl rfl Tryd.func60 (by kernel_rfl) rfl #[.int .i32 a0, .int .i32 837, .int .i32 837] rfl (by (try simp only [List.map_toArray, List.map_cons, List.map_nil]); first | done | rfl | (simp only [List.length_drop, List.length_take]; rfl)) ?_; (with_reducible refine (tremaref02_in.calls a0 837 837 false _ A50.out).mono ?_); rintro e w' ⟨rfl, ⟨nd, rfl⟩⟩; refine ⟨_, rfl, ?_⟩) | ((with_reducible refine gate_callee (f := 60) rfl ?_); refine goesL_ (some 60) rfl rfl Tryd.func60 (by kernel_rfl) rfl #[.int .i32 a0, .int .i32 12441, .int .i32 12442] rfl (by (try simp only [List.map_toArray, List.map_cons, List.map_nil]); first | done | rfl | (simp only [List.length_drop, List.length_take]; rfl)) ?_; (with_reducible refine (tremaref02_in.calls a0 12441 12442 true _ A52.out).mono ?_); rintro e w' ⟨rfl, ⟨nd, rfl⟩⟩; refine ⟨_, rfl, ?_⟩))
                 go_ret
                 exact ⟨by first | rfl | (simp; done) | (simp [*]; done), by repeat (first | exact Drawn0.refl _ | apply Drawn0.step)⟩
                ·replace c53 := Bool.eq_false_iff.mpr c53
                 subst c53
                 have H1 : (some 0) = some r := by rw [if_neg (show ¬ (false = true) by decide)] at H; exact H
                 clear H
                 have H := H1
                 clear H1
                 obtain rfl := Option.some.inj H
                 go_wp2_with (first | ((with_reducible refine gate_callee (f := 60) rfl ?_); refine goesL_ (some 54) rfl rfl Tryd.func60 (by kernel_rfl) rfl #[.int .i32 a0, .int .i32 820, .int .i32 824] rfl (by (try simp only [List.map_toArray, List.map_cons, List.map_nil]); first | done | rfl | (simp only [List.length_drop, List.length_take]; rfl)) ?_; (with_reducible refine (tremaref02_in.calls a0 820 824 false _ A48.out).mono ?_); rintro e w' ⟨rfl, ⟨nd, rfl⟩⟩; refine ⟨_, rfl, ?_⟩) | ((with_reducible refine gate_callee (f := 60) rfl ?_); refine goesL_ (some 57) rfl rfl Tryd.func60 (by kernel_rfl) rfl #[.int .i32 a0, .int .i32 837, .int .i32 837] rfl (by (try simp only [List.map_toArray, List.map_cons, List.map_nil]); first | done | rfl | (simp only [List.length_drop, List.length_take]; rfl)) ?_; (with_reducible refine (tremaref02_in.calls a0 837 837 false _ A50.out).mono ?_); rintro e w' ⟨rfl, ⟨nd, rfl⟩⟩; refine ⟨_, rfl, ?_⟩) | ((with_reducible refine gate_callee (f := 60) rfl ?_); refine goesL_ (some 60) rfl rfl Tryd.func60 (by kernel_rfl) rfl #[.int .i32 a0, .int .i32 12441, .int .i32 12442] rfl (by (try simp only [List.map_toArray, List.map_cons, List.map_nil]); first | done | rfl | (simp only [List.length_drop, List.length_take]; rfl)) ?_; (with_reducible refine (tremaref02_in.calls a0 12441 12442 false _ A52.out).mono ?_); rintro e w' ⟨rfl, ⟨nd, rfl⟩⟩; refine ⟨_, rfl, ?_⟩))
                 go_ret
                 exact ⟨by first | rfl | (simp; done) | (simp [*]; done), by repeat (first | exact Drawn0.refl _ | apply Drawn0.step)⟩

end Go.Proofs.YtiggjbclbdikmaaDoor.X

-- Written by a program of this session (xprint.py), over the kit's print.
namespace Go.Proofs.YtiggjbclbdikmaaDoor.X
open Go.RowKit Go.Proofs.YtiggjbclbdikmaaDoorW.PrintWords Go.Proofs.YtiggjbclbdikmaaDoorW.PrintLast Go.Proofs.YtiggjbclbdikmaaDoorW.PrintMore
attribute [local go_sem] max2_int min2_int max_two min_two max_three min_three max_four min_four   -- for this text's walks alone
set_option linter.unusedVariables false
set_option linter.unusedSimpArgs false

/-! ### tremaref02_Trailing: function 63 -/
def tremaref02_Trailing.f (a0 : Int) : Option (Bool) := (tremaref02_in.f a0 4449 4469).bind fun t219 => (if t219 = true then (some true) else ((tremaref02_in.f a0 4520 4546).bind fun t220 => (some t220)))
set_option maxHeartbeats 8000000 in
set_option maxRecDepth 100000 in
theorem tremaref02_Trailing.calls (a0 : Int) (r : Bool) (w : World) (h : tremaref02_Trailing.f a0 = some r) :
  Calls Tryd.prog 63 #[.int .i32 a0] w fun e w' => e = .returned (.bool r) ∧ Drawn0 w w' := by
 have H : ((tremaref02_in.f a0 4449 4469).bind fun t219 => (if t219 = true then (some true) else ((tremaref02_in.f a0 4520 4546).bind fun t220 => (some t220)))) = some r := h
 clear h
 replace H := Option.bind_eq_some_iff.mp H
 obtain ⟨t219, A20, H⟩ := H
 replace H : (if t219 = true then (some true) else ((tremaref02_in.f a0 4520 4546).bind fun t220 => (some t220))) = some r := H
 have A2 := Aside0.mk A20
 clear A20
 by_cases c3 : t219 = true
 ·subst c3
  have H1 : (some true) = some r := by rw [if_pos rfl] at H; exact H
  clear H
  have H := H1
  clear H1
  obtain rfl := Option.some.inj H
  go_enter Tryd.func63, Tryd.ntmps63
  go_wp2_with (first | ((with_reducible refine gate_callee (f := 60) rfl ?_); refine goesL_ (some 4) rfl rfl Tryd.func60 (by kernel_rfl) rfl #[.int .i32 a0, .int .i32 4449, .int .i32 4469] rfl (by (try simp only [List.map_toArray, List.map_cons, List.map_nil]); first | done | rfl | (simp only [List.length_drop, List.length_take]; rfl)) ?_; (with_reducible refine (tremaref02_in.calls a0 4449 4469 true _ A2.out).mono ?_); rintro e w' ⟨rfl, ⟨nd, rfl⟩⟩; refine ⟨_, rfl, ?_⟩))
  go_ret
  exact ⟨by first | rfl | (simp; done) | (simp [*]; done), by repeat (first | exact Drawn0.refl _ | apply Drawn0.step)⟩
 ·replace c3 := Bool.eq_false_iff.mpr c3
  subst c3
  have H1 : ((tremaref02_in.f a0 4520 4546).bind fun t220 => (some t220)) = some r := by rw [if_neg (show ¬ (false = true) by decide)] at H; exact H
  clear H
  have H := H1
  clear H1
  replace H := Option.bind_eq_some_iff.mp H
  obtain ⟨t220, A40, H⟩ := H
  replace H : (some t220) = some r := H
  have A4 := Aside0.mk A40
  clear A40
  obtain rfl := Option.some.inj H
  go_enter Tryd.func63, Tryd.ntmps63
  go_wp2_with (first | ((with_reducible refine gate_callee (f := 60) rfl ?_); refine goesL_ (some 4) rfl rfl Tryd.func60 (by kernel_rfl) rfl #[.int .i32 a0, .int .i32 4449, .int .i32 4469] rfl (by (try simp only [List.map_toArray, List.map_cons, List.map_nil]); first | done | rfl | (simp only [List.length_drop, List.length_take]; rfl)) ?_; (with_reducible refine (tremaref02_in.calls a0 4449 4469 false _ A2.out).mono ?_); rintro e w' ⟨rfl, ⟨nd, rfl⟩⟩; refine ⟨_, rfl, ?_⟩) | (go_at_call 60; (with_reducible refine (tremaref02_in.calls a0 4520 4546 t220 _ A4.out).mono ?_); rintro e w' ⟨rfl, ⟨nd, rfl⟩⟩))
  go_ret
  exact ⟨by first | rfl | (simp; done) | (simp [*]; done), by repeat (first | exact Drawn0.refl _ | apply Drawn0.step)⟩

end Go.Proofs.YtiggjbclbdikmaaDoor.X

/-
  The references' Class and Trailing are the program's: at each number as at the last bound below it.
-/
namespace Go.Proofs.YtiggjbclbdikmaaDoor.Vr
set_option linter.unusedVariables false
set_option linter.unusedSimpArgs false
open Go.RowKit Go.Proofs.YtiggjbclbdikmaaDoorW.PrintWords Go.Proofs.YtiggjbclbdikmaaDoor.Ev0 Go.Proofs.YtiggjbclbdikmaaDoor.X Go.Proofs.YtiggjbclbdikmaaDoor.Va Go.Proofs.YtiggjbclbdikmaaDoor.Vc Go.Proofs.YtiggjbclbdikmaaDoor.Vd Go.Proofs.YtiggjbclbdikmaaDoor.Ve Go.Proofs.YtiggjbclbdikmaaDoor.Vp0

theorem rep0 (m r : Int) : ∀ B : List Int, (∀ b ∈ B, m < b) → ∃ x, x ∈ m :: B ∧ (∀ b ∈ B, (b ≤ r ↔ b ≤ x)) ∧ (x = m ∨ x ≤ r)
  | [], _ => ⟨m, List.mem_cons_self .., by simp, .inl rfl⟩
  | b :: B, h => by
    obtain ⟨x, h1, h2, h3⟩ := rep0 m r B (fun c hc => h c (List.mem_cons_of_mem _ hc))
    have hb := h b (List.mem_cons_self ..)
    by_cases c1 : b ≤ r
    · by_cases c2 : x < b
      · refine ⟨b, by simp, fun c hc => ?_, .inr c1⟩
        rcases List.mem_cons.1 hc with rfl | hc
        · exact ⟨fun _ => Int.le_refl _, fun _ => c1⟩
        · have := h2 c hc
          omega
      · refine ⟨x, ?_, fun c hc => ?_, h3⟩
        · rcases List.mem_cons.1 h1 with rfl | h1 <;> simp [*]
        · rcases List.mem_cons.1 hc with rfl | hc
          · omega
          · exact h2 c hc
    · refine ⟨x, ?_, fun c hc => ?_, h3⟩
      · rcases List.mem_cons.1 h1 with rfl | h1 <;> simp [*]
      · rcases List.mem_cons.1 hc with rfl | hc
        · omega
        · exact h2 c hc
theorem rep (B : List Int) (r : Int) (h : ∀ b ∈ B, -1 < b) : ∃ x, x ∈ -1 :: B ∧ ∀ b ∈ B, (b ≤ r ↔ b ≤ x) := by
  obtain ⟨x, h1, h2, -⟩ := rep0 (-1) r B h
  exact ⟨x, h1, h2⟩
theorem in_of {r x lo hi : Int} (h1 : lo ≤ r ↔ lo ≤ x) (h2 : hi + 1 ≤ r ↔ hi + 1 ≤ x) : tremaref02_in.f r lo hi = tremaref02_in.f x lo hi := by
  unfold tremaref02_in.f
  by_cases c : lo ≤ r
  · rw [if_pos c, if_pos (h1.1 c)]
    congr 1
    rw [decide_eq_decide]
    omega
  · rw [if_neg c, if_neg (fun h => c (h1.2 h))]
/-! class -/
def clsB : List Int := [768, 789, 790, 794, 795, 796, 801, 803, 807, 809, 820, 825, 829, 837, 838, 839, 842, 845, 847, 848, 851, 855, 856, 8400, 8402, 12441, 12443]
theorem clsF_of {r x : Int} (hx : ∀ b ∈ clsB, (b ≤ r ↔ b ≤ x)) : ∀ l : List (Int × Int × Int), (∀ p ∈ l, p.1 ∈ clsB ∧ p.2.1 + 1 ∈ clsB) → clsF r l = clsF x l
  | [], _ => rfl
  | p :: t, h => by
    have h1 := h p (List.mem_cons_self ..)
    have a1 := hx _ h1.1
    have a2 := hx _ h1.2
    rw [clsF, clsF, clsF_of hx t (fun q hq => h q (List.mem_cons_of_mem _ hq))]
    by_cases c : p.1 ≤ r ∧ r ≤ p.2.1
    · rw [if_pos c, if_pos (by omega)]
    · rw [if_neg c, if_neg (by omega)]
theorem clsB_at : ∀ x ∈ -1 :: clsB, tremaref02_Class.f 30 x = some (cls x) := by decide +kernel
theorem refcls (r : Int) : tremaref02_Class.f 30 r = some (cls r) := by
  obtain ⟨x, hx1, hx⟩ := rep clsB r (by decide)
  have hc : cls r = cls x := clsF_of hx clsT (by decide)
  have e0 := in_of (lo := 789) (hi := 789) (hx _ (by decide : (789 : Int) ∈ clsB)) (hx _ (by decide : (790 : Int) ∈ clsB))
  have e1 := in_of (lo := 794) (hi := 794) (hx _ (by decide : (794 : Int) ∈ clsB)) (hx _ (by decide : (795 : Int) ∈ clsB))
  have e2 := in_of (lo := 790) (hi := 793) (hx _ (by decide : (790 : Int) ∈ clsB)) (hx _ (by decide : (794 : Int) ∈ clsB))
  have e3 := in_of (lo := 796) (hi := 800) (hx _ (by decide : (796 : Int) ∈ clsB)) (hx _ (by decide : (801 : Int) ∈ clsB))
  have e4 := in_of (lo := 803) (hi := 806) (hx _ (by decide : (803 : Int) ∈ clsB)) (hx _ (by decide : (807 : Int) ∈ clsB))
  have e5 := in_of (lo := 809) (hi := 819) (hx _ (by decide : (809 : Int) ∈ clsB)) (hx _ (by decide : (820 : Int) ∈ clsB))
  have e6 := in_of (lo := 825) (hi := 828) (hx _ (by decide : (825 : Int) ∈ clsB)) (hx _ (by decide : (829 : Int) ∈ clsB))
  have e7 := in_of (lo := 795) (hi := 795) (hx _ (by decide : (795 : Int) ∈ clsB)) (hx _ (by decide : (796 : Int) ∈ clsB))
  have e8 := in_of (lo := 801) (hi := 802) (hx _ (by decide : (801 : Int) ∈ clsB)) (hx _ (by decide : (803 : Int) ∈ clsB))
  have e9 := in_of (lo := 807) (hi := 808) (hx _ (by decide : (807 : Int) ∈ clsB)) (hx _ (by decide : (809 : Int) ∈ clsB))
  have e10 := in_of (lo := 820) (hi := 824) (hx _ (by decide : (820 : Int) ∈ clsB)) (hx _ (by decide : (825 : Int) ∈ clsB))
  have e11 := in_of (lo := 837) (hi := 837) (hx _ (by decide : (837 : Int) ∈ clsB)) (hx _ (by decide : (838 : Int) ∈ clsB))
  have e12 := in_of (lo := 12441) (hi := 12442) (hx _ (by decide : (12441 : Int) ∈ clsB)) (hx _ (by decide : (12443 : Int) ∈ clsB))
  have e13 := in_of (lo := 839) (hi := 841) (hx _ (by decide : (839 : Int) ∈ clsB)) (hx _ (by decide : (842 : Int) ∈ clsB))
  have e14 := in_of (lo := 845) (hi := 846) (hx _ (by decide : (845 : Int) ∈ clsB)) (hx _ (by decide : (847 : Int) ∈ clsB))
  have e15 := in_of (lo := 851) (hi := 854) (hx _ (by decide : (851 : Int) ∈ clsB)) (hx _ (by decide : (855 : Int) ∈ clsB))
  have e16 := in_of (lo := 855) (hi := 855) (hx _ (by decide : (855 : Int) ∈ clsB)) (hx _ (by decide : (856 : Int) ∈ clsB))
  have e17 := in_of (lo := 8400) (hi := 8401) (hx _ (by decide : (8400 : Int) ∈ clsB)) (hx _ (by decide : (8402 : Int) ∈ clsB))
  have e18 := in_of (lo := 768) (hi := 788) (hx _ (by decide : (768 : Int) ∈ clsB)) (hx _ (by decide : (789 : Int) ∈ clsB))
  have e19 := in_of (lo := 829) (hi := 836) (hx _ (by decide : (829 : Int) ∈ clsB)) (hx _ (by decide : (837 : Int) ∈ clsB))
  have e20 := in_of (lo := 838) (hi := 838) (hx _ (by decide : (838 : Int) ∈ clsB)) (hx _ (by decide : (839 : Int) ∈ clsB))
  have e21 := in_of (lo := 842) (hi := 844) (hx _ (by decide : (842 : Int) ∈ clsB)) (hx _ (by decide : (845 : Int) ∈ clsB))
  have e22 := in_of (lo := 848) (hi := 850) (hx _ (by decide : (848 : Int) ∈ clsB)) (hx _ (by decide : (851 : Int) ∈ clsB))
  rw [hc, ← clsB_at x hx1]
  simp only [tremaref02_Class.f, tremaref02_Class.j0, tremaref02_Class.j1, tremaref02_Class.j2, tremaref02_Class.j3, tremaref02_Class.j4, tremaref02_Class.j5, e0, e1, e2, e3, e4, e5, e6, e7, e8, e9, e10, e11, e12, e13, e14, e15, e16, e17, e18, e19, e20, e21, e22]
theorem clsEv (r : Int) : Ev (fun k => tremaref02_Class.f k r) (cls r) := Ev.of (tremaref02_Class.mono r) (refcls r)
theorem reftrl (r : Int) : tremaref02_Trailing.f r = some (trl r) := by
  have h : ∀ lo hi : Int, tremaref02_in.f r lo hi = some (decide (lo ≤ r ∧ r ≤ hi)) := fun lo hi => by
    unfold tremaref02_in.f
    by_cases c : lo ≤ r
    · rw [if_pos c]; congr 1; rw [decide_eq_decide]; omega
    · rw [if_neg c]; congr 1; symm; rw [decide_eq_false_iff_not]; omega
  unfold tremaref02_Trailing.f trl
  rw [h, h]
  simp only [Option.bind_some]
  by_cases c1 : 4449 ≤ r ∧ r ≤ 4469
  · rw [decide_eq_true c1, if_pos rfl, decide_eq_true (.inl c1)]
  · rw [decide_eq_false c1, if_neg Bool.false_ne_true]
    congr 1
    rw [decide_eq_decide]
    omega
end Go.Proofs.YtiggjbclbdikmaaDoor.Vr
