/-
  ucd.Named; the chapter's examples.
-/
import Derived.Test.YtfiihlgigeijcaaDoorVe
namespace Go.Proofs.YtfiihlgigeijcaaDoor.Vf
set_option linter.unusedVariables false
set_option linter.unusedSimpArgs false
open Go.RowKit Go.Proofs.YtfiihlgigeijcaaDoorW.PrintWords Go.Proofs.YtfiihlgigeijcaaDoor.Hp Go.Proofs.YtfiihlgigeijcaaDoor.Va Go.Proofs.YtfiihlgigeijcaaDoor.Vb Go.Proofs.YtfiihlgigeijcaaDoor.Vc Go.Proofs.YtfiihlgigeijcaaDoor.Vd Go.Proofs.YtfiihlgigeijcaaDoor.Ve Go.Proofs.YtfiihlgigeijcaaDoor.X

theorem fold_some (r : Int) : ucd_Fold.f 20 r = some (foldU r) := by
  unfold foldU
  by_cases h : r < 65 ∨ 8492 ≤ r
  · rw [fold_out r h]; rfl
  · have h1 : foldT r = true := by
      by_cases h2 : r < 8192
      · exact allB_at foldT 13 0 fold_in1 r (by omega) (by omega)
      · exact allB_at foldT 9 8192 fold_in2 r (by omega) (by omega)
    unfold foldT at h1
    cases h3 : ucd_Fold.f 20 r with
    | none => rw [h3] at h1; cases h1
    | some l => rfl
theorem fold_fold (r : Int) : ∀ x ∈ foldU r, foldU x = [x] := by
  by_cases h : r < 65 ∨ 8492 ≤ r
  · intro x hx
    have : foldU r = [r] := by unfold foldU; rw [fold_out r h]; rfl
    rw [this] at hx
    obtain rfl := List.mem_singleton.1 hx
    exact this
  · have h1 : foldT r = true := by
      by_cases h2 : r < 8192
      · exact allB_at foldT 13 0 fold_in1 r (by omega) (by omega)
      · exact allB_at foldT 9 8192 fold_in2 r (by omega) (by omega)
    unfold foldT at h1
    rw [fold_some r] at h1
    intro x hx
    have h2 := List.all_eq_true.1 h1 x hx
    rw [Bool.and_eq_true, fold_some x, beq_iff_eq] at h2
    exact Option.some.inj h2.1
theorem fold_range (r : Int) (hr : -2147483648 ≤ r ∧ r ≤ 2147483647) : ∀ x ∈ foldU r, -2147483648 ≤ x ∧ x ≤ 2147483647 := by
  by_cases h : r < 65 ∨ 8492 ≤ r
  · intro x hx
    have : foldU r = [r] := by unfold foldU; rw [fold_out r h]; rfl
    rw [this] at hx
    obtain rfl := List.mem_singleton.1 hx
    exact hr
  · have h1 : foldT r = true := by
      by_cases h2 : r < 8192
      · exact allB_at foldT 13 0 fold_in1 r (by omega) (by omega)
      · exact allB_at foldT 9 8192 fold_in2 r (by omega) (by omega)
    unfold foldT at h1
    rw [fold_some r] at h1
    intro x hx
    have h2 := List.all_eq_true.1 h1 x hx
    rw [Bool.and_eq_true, decide_eq_true_eq] at h2
    omega
theorem FoldP (w : World) (r : Int) : Calls Tryd.prog 25 #[.int .i32 r] w (NewR w (foldU r)) := (ucd_Fold.calls 20 r (foldU r) w (fold_some r)).mono fun _ _ ⟨v, h1, h2, h3⟩ => ⟨v, h1, h2, h3⟩

/-! Named -/
abbrev ctS : ByteArray := ⟨#[76, 77, 78, 80, 83, 90, 67]⟩
def ctL : List Int := [76, 77, 78, 80, 83, 90, 67]
def str1 (c : Int) : ByteArray := ⟨#[UInt8.ofNat c.toNat]⟩
def namF (s : ByteArray) (i : Int) : List Int → Int × Bool
  | [] => (0, false)
  | c :: t => if s.toList = (str1 c).toList then (i + 1, true) else namF s (i + 1) t
def namU (s : ByteArray) : Int × Bool := namF s 0 ctL
theorem ct_ascii : ∀ p : Fin 7, (ctS[p.1]'(p.2)).toNat < 128 ∧ (((ctS[p.1]'(p.2)).toNat : Nat) : Int) = ctL.getD p.1 0 := by decide
theorem ct_next (w : World) (pos : Nat) (h : pos < 7) (ty : TypeId) : (Instr.next (.pointer (some ⟨w.heap.size, 0, none⟩)) true ty).run Tryd.prog (w.iter ctS pos) = .ok (.tuple #[.bool true, .int .i64 pos, .int .i32 (ctL.getD pos 0)]) (w.iter ctS (pos + 1)) := by
  have h1 := ct_ascii ⟨pos, h⟩
  have := run_next_ascii (P := Tryd.prog) w ctS pos ty h h1.1
  rw [h1.2] at this
  exact this
theorem ct_below (w : World) (pos : Nat) : Below w.heap.size w (w.iter ctS pos) := below_alloc (Below.refl _ _) _
theorem ct_pos (w : World) (pos : Nat) : (w.iter ctS pos).iterPos w.heap.size = pos := by simp [World.iterPos, World.iter_heap]
theorem cv0 : ∀ W : World, (convert 21 9 (.int .i32 76)).run Tryd.prog W = .ok (.string (str1 76)) W := fun _ => by kernel_rfl
theorem cv1 : ∀ W : World, (convert 21 9 (.int .i32 77)).run Tryd.prog W = .ok (.string (str1 77)) W := fun _ => by kernel_rfl
theorem cv2 : ∀ W : World, (convert 21 9 (.int .i32 78)).run Tryd.prog W = .ok (.string (str1 78)) W := fun _ => by kernel_rfl
theorem cv3 : ∀ W : World, (convert 21 9 (.int .i32 80)).run Tryd.prog W = .ok (.string (str1 80)) W := fun _ => by kernel_rfl
theorem cv4 : ∀ W : World, (convert 21 9 (.int .i32 83)).run Tryd.prog W = .ok (.string (str1 83)) W := fun _ => by kernel_rfl
theorem cv5 : ∀ W : World, (convert 21 9 (.int .i32 90)).run Tryd.prog W = .ok (.string (str1 90)) W := fun _ => by kernel_rfl
theorem cv6 : ∀ W : World, (convert 21 9 (.int .i32 67)).run Tryd.prog W = .ok (.string (str1 67)) W := fun _ => by kernel_rfl
theorem ct_conv (pos : Nat) (h : pos < 7) : ∀ W : World, (convert 21 9 (.int .i32 (ctL.getD pos 0))).run Tryd.prog W = .ok (.string (str1 (ctL.getD pos 0))) W := by
  intro W
  match pos, h with
  | 0, _ => exact cv0 W
  | 1, _ => exact cv1 W
  | 2, _ => exact cv2 W
  | 3, _ => exact cv3 W
  | 4, _ => exact cv4 W
  | 5, _ => exact cv5 W
  | 6, _ => exact cv6 W
  | n + 7, h => exact absurd h (by omega)
set_option maxRecDepth 100000 in
set_option maxHeartbeats 1000000 in
theorem NamP (w : World) (s : ByteArray) : Calls Tryd.prog 27 #[.string s] w fun e w' => e = .returned (.tuple #[.int .i64 (namU s).1, .bool (namU s).2]) ∧ Below w.heap.size w w' := by
  go_enter Tryd.func27, Tryd.ntmps27
  go_wp2
  go_loopw [7] (fun _ wr => ∃ pos : Nat, pos ≤ 7 ∧ wr = w.iter ctS pos ∧ Aside0 (namU s = namF s pos (ctL.drop pos))) (fun _ wr => 7 - wr.iterPos w.heap.size)
  case atStart => exact ⟨0, Nat.zero_le _, rfl, ⟨rfl⟩⟩
  case round =>
    obtain ⟨pos, hp, rfl, HE⟩ := hrel
    by_cases hlt : pos < 7
    · have hnx := ct_next w pos hlt
      have hcv := ct_conv pos hlt
      have he := HE.out
      have hd1 : ctL.drop pos = ctL.getD pos 0 :: ctL.drop (pos + 1) := by
        have h1 : pos < ctL.length := hlt
        rw [List.drop_eq_getElem_cons h1]
        simp [List.getElem?_eq_getElem h1]
      rw [hd1, namF] at he
      obtain ⟨a, ha⟩ : ∃ a, a = ctL.getD pos 0 := ⟨_, rfl⟩
      rw [← ha] at hnx he hcv
      obtain ⟨z, hz⟩ : ∃ z, z = str1 a := ⟨_, rfl⟩
      rw [← hz] at he hcv
      have NB := Aside0.mk (ct_below w (pos + 1))
      have MU := Aside0.mk (ct_pos w pos)
      have MU1 := Aside0.mk (ct_pos w (pos + 1))
      clear hd1 ha hz
      by_cases hac : s.toList = z.toList
      · rw [if_pos hac] at he
        have hac2 : (s.toList == z.toList) = true := beq_iff_eq.2 hac
        have HE1 := Aside0.mk he
        clear he hac
        go_wp2
        go_ret2
        exact ⟨by rw [HE1.out]; rfl, NB.out⟩
      · rw [if_neg hac] at he
        have hac2 : (s.toList == z.toList) = false := beq_eq_false_iff_ne.2 hac
        have HE1 := Aside0.mk he
        clear he hac
        go_wp2
        go_roundw
        case rel => exact ⟨pos + 1, by omega, rfl, ⟨by rw [HE1.out]; push_cast; rfl⟩⟩
        case measure => rw [MU.out, MU1.out]; omega
    · obtain rfl : pos = 7 := by omega
      have hnx := fun ty => run_next_end (P := Tryd.prog) w ctS 7 ty (by decide)
      have HE1 := Aside0.mk (show namU s = (0, false) from HE.out)
      have NB := Aside0.mk (ct_below w 7)
      go_wp2
      go_ret2
      exact ⟨by rw [HE1.out]; rfl, NB.out⟩
end Go.Proofs.YtfiihlgigeijcaaDoor.Vf
namespace Go.Proofs.YtfiihlgigeijcaaDoor.X
open Go.RowKit Go.Proofs.YtfiihlgigeijcaaDoorW.PrintWords
def ucd_Named.f (a0 : ByteArray) : Option (Int × Bool) := some (Vf.namU a0)
theorem ucd_Named.calls (a0 : ByteArray) (r1 : Int) (r2 : Bool) (w : World) (h : ucd_Named.f a0 = some (r1, r2)) : Calls Tryd.prog 27 #[.string a0] w fun e w' => e = .returned (.tuple #[.int .i64 r1, .bool r2]) ∧ Below w.heap.size w w' := by
  have := Vf.NamP w a0
  rw [Option.some.inj h] at this
  exact this
end Go.Proofs.YtfiihlgigeijcaaDoor.X
