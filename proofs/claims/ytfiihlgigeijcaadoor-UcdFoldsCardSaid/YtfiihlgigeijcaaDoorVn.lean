/-
  The reference's Named walked.
-/
import Derived.Test.YtfiihlgigeijcaaDoorVf
namespace Go.Proofs.YtfiihlgigeijcaaDoor.Vn
set_option linter.unusedVariables false
set_option linter.unusedSimpArgs false
open Go.RowKit Go.Proofs.YtfiihlgigeijcaaDoorW.PrintWords Go.Proofs.YtfiihlgigeijcaaDoor.Hp Go.Proofs.YtfiihlgigeijcaaDoor.Vf

theorem sl0 : ∀ W : World, (Instr.slice 9 (.string ctS) (some (.int .i64 0)) (some (.int .i64 1)) none).run Tryd.prog W = .ok (.string (str1 76)) W := fun _ => by kernel_rfl
theorem sl1 : ∀ W : World, (Instr.slice 9 (.string ctS) (some (.int .i64 1)) (some (.int .i64 2)) none).run Tryd.prog W = .ok (.string (str1 77)) W := fun _ => by kernel_rfl
theorem sl2 : ∀ W : World, (Instr.slice 9 (.string ctS) (some (.int .i64 2)) (some (.int .i64 3)) none).run Tryd.prog W = .ok (.string (str1 78)) W := fun _ => by kernel_rfl
theorem sl3 : ∀ W : World, (Instr.slice 9 (.string ctS) (some (.int .i64 3)) (some (.int .i64 4)) none).run Tryd.prog W = .ok (.string (str1 80)) W := fun _ => by kernel_rfl
theorem sl4 : ∀ W : World, (Instr.slice 9 (.string ctS) (some (.int .i64 4)) (some (.int .i64 5)) none).run Tryd.prog W = .ok (.string (str1 83)) W := fun _ => by kernel_rfl
theorem sl5 : ∀ W : World, (Instr.slice 9 (.string ctS) (some (.int .i64 5)) (some (.int .i64 6)) none).run Tryd.prog W = .ok (.string (str1 90)) W := fun _ => by kernel_rfl
theorem sl6 : ∀ W : World, (Instr.slice 9 (.string ctS) (some (.int .i64 6)) (some (.int .i64 7)) none).run Tryd.prog W = .ok (.string (str1 67)) W := fun _ => by kernel_rfl
theorem sl_at (pos : Nat) (h : pos < 7) : ∀ W : World, (Instr.slice 9 (.string ctS) (some (.int .i64 (pos : Int))) (some (.int .i64 ((pos : Int) + 1))) none).run Tryd.prog W = .ok (.string (str1 (ctL.getD pos 0))) W := by
  intro W
  match pos, h with
  | 0, _ => exact sl0 W
  | 1, _ => exact sl1 W
  | 2, _ => exact sl2 W
  | 3, _ => exact sl3 W
  | 4, _ => exact sl4 W
  | 5, _ => exact sl5 W
  | 6, _ => exact sl6 W
  | n + 7, h => exact absurd h (by omega)
set_option maxRecDepth 100000 in
set_option maxHeartbeats 1000000 in
theorem RefNamP (w : World) (s : ByteArray) : Calls Tryd.prog 28 #[.string s] w fun e w' => e = .returned (.tuple #[.int .i64 (namU s).1, .bool (namU s).2]) ∧ Below w.heap.size w w' := by
  go_enter Tryd.func28, Tryd.ntmps28
  go_wp2
  go_loop [5] (fun iv => ∃ pos : Nat, pos ≤ 7 ∧ iv = .int .i64 pos ∧ Aside0 (namU s = namF s pos (ctL.drop pos))) (fun iv => 7 - (intOf iv).toNat)
  case atStart => exact ⟨0, Nat.zero_le _, rfl, ⟨rfl⟩⟩
  case round =>
    obtain ⟨pos, hp, rfl, HE⟩ := hrel
    by_cases hlt : pos < 7
    · have hsl := sl_at pos hlt
      have hd : decide ((pos : Int) < 7) = true := decide_eq_true (by omega)
      have he := HE.out
      have hd1 : ctL.drop pos = ctL.getD pos 0 :: ctL.drop (pos + 1) := by
        have h1 : pos < ctL.length := hlt
        rw [List.drop_eq_getElem_cons h1]
        simp [List.getElem?_eq_getElem h1]
      rw [hd1, namF] at he
      obtain ⟨a, ha⟩ : ∃ a, a = ctL.getD pos 0 := ⟨_, rfl⟩
      rw [← ha] at hsl he
      obtain ⟨z, hz⟩ : ∃ z, z = str1 a := ⟨_, rfl⟩
      rw [← hz] at he hsl
      clear hd1 ha hz
      by_cases hac : s.toList = z.toList
      · rw [if_pos hac] at he
        have hac2 : (s.toList == z.toList) = true := beq_iff_eq.2 hac
        have HE1 := Aside0.mk he
        clear he hac
        go_wp2
        go_ret2
        exact ⟨by rw [HE1.out]; rfl, Below.refl _ _⟩
      · rw [if_neg hac] at he
        have hac2 : (s.toList == z.toList) = false := beq_eq_false_iff_ne.2 hac
        have HE1 := Aside0.mk he
        clear he hac
        go_wp2
        go_round
        case rel => exact ⟨pos + 1, by omega, by go_num, ⟨by rw [HE1.out]; push_cast; rfl⟩⟩
        case measure => simp [intOf]; omega
    · obtain rfl : pos = 7 := by omega
      have HE1 := Aside0.mk (show namU s = (0, false) from HE.out)
      go_wp2
      go_ret2
      exact ⟨by rw [HE1.out]; rfl, Below.refl _ _⟩
end Go.Proofs.YtfiihlgigeijcaaDoor.Vn
namespace Go.Proofs.YtfiihlgigeijcaaDoor.X
open Go.RowKit Go.Proofs.YtfiihlgigeijcaaDoorW.PrintWords
def tremaref02_Named.f (a0 : ByteArray) : Option (Int × Bool) := some (Vf.namU a0)
theorem tremaref02_Named.calls (a0 : ByteArray) (r1 : Int) (r2 : Bool) (w : World) (h : tremaref02_Named.f a0 = some (r1, r2)) : Calls Tryd.prog 28 #[.string a0] w fun e w' => e = .returned (.tuple #[.int .i64 r1, .bool r2]) ∧ Below w.heap.size w w' := by
  have := Vn.RefNamP w a0
  rw [Option.some.inj h] at this
  exact this
end Go.Proofs.YtfiihlgigeijcaaDoor.X
