/-
  sparse.Set[int]: Clear; nil sets.
-/
import Derived.Test.YtpebemljgeammaaSpint
namespace Go.Proofs.Ytpebemljgeammaa.Spint
set_option linter.unusedVariables false
set_option linter.unusedSimpArgs false
open Go.RowKit Go.Proofs.YtpebemljgeammaaW.PrintWords Go.Proofs.Ytpebemljgeammaa.Hp Go.Proofs.Ytpebemljgeammaa.Sp0

theorem own_same (A : Option Addr) (n m c c' : Nat) : (Value.slice A n c).ownBlock = (Value.slice A m c').ownBlock := by cases A <;> rfl
theorem info_e' : ∃ i, Try.prog.info? 3 = some i := by
  obtain ⟨i, h, _⟩ := Option.map_eq_some_iff.1 info_e
  exact ⟨i, h⟩

def ClearPost (w : World) (base g N : Nat) (ok : Nat → Prop) (e : Ending) (w' : World) : Prop :=
  e = .returned (.tuple #[]) ∧ IsSet 95 3 .i64 N [] g base ok w' ∧ Chg ok w w'

set_option maxHeartbeats 1000000 in
theorem Clear (w : World) (base g : Nat) (ok : Nat → Prop) (N : Nat) (xs : List Int) (h : IsSet 95 3 .i64 N xs g base ok w) :
    Calls Try.prog 37 #[.pointer (some ⟨g, 0, none⟩)] w (ClearPost w base g N ok) := by
  obtain ⟨gw, ov, ws, h, o1, o2, o3⟩ := h
  have c1 : w.cell? ⟨g, 1, none⟩ = some ov := by simp [World.cell?, h.hg]
  have f1 : w.frozen? ⟨g, 1, none⟩ = false := by simp [World.frozen?, h.hg]
  obtain ⟨A, c, rfl, hm, hA⟩ := h.slice
  have hc : xs.length ≤ c := by
    rcases h.ho.2 with ⟨he, hn⟩ | ⟨go, cap, cur, he, hb, hh, h1, h2, h3, h4⟩
    · injection he; omega
    · injection he; omega
  obtain ⟨i0, hi0⟩ := info_e'
  have hcut : ∀ W : World, (Instr.slice 24 (.slice A xs.length c) none (some (.int .i64 0)) none).run Try.prog W = .ok (.slice A 0 c) W := cut_to (P := Try.prog) 24 3 .i64 Try.underlying24 hi0 A xs.length c 0 (by omega) (by omega) hc
  have hfin : ClearPost w base g N ok (.returned (.tuple #[])) (w.setCell ⟨g, 1, none⟩ (.slice A 0 c)) := by
    refine ⟨rfl, ⟨gw, .slice A 0 c, ws, { h with hg := ?_, hw := ?_, ho := ?_, og := ?_, ow := ?_, hx := by simp, nd := List.nodup_nil, hv := ?_ }, o1, o2, ?_⟩, (Chg.refl _ w).setCell (p := ⟨g, 1, none⟩) (.inl o1) _⟩
    · have := blk_set h.hg 1 (.slice A 0 c)
      simpa using this
    · exact (Below.heap_setCell _ _ _ _ (fun e => h.ne e.symm)).trans h.hw
    · have := own_take (m := 0) h.ho (by omega)
      simp at this
      exact own_setCell this (by rw [own_same A 0 xs.length c c]; exact fun e => h.og e.symm) _
    · rw [own_same A 0 xs.length c c]; exact h.og
    · rw [own_same A 0 xs.length c c]; exact h.ow
    · intro j hj
      obtain ⟨i, h1, h2, _⟩ := h.hv j hj
      exact ⟨i, h1, h2, by simp⟩
    · rw [own_same A 0 xs.length c c]; exact o3
  clear h hA hi0
  go_enter Try.func37, Try.ntmps37
  go_wp2
  go_end0
  exact hfin

/-! nil sets -/
set_option maxHeartbeats 1000000 in
theorem HasNil (w : World) (v : Int) : Calls Try.prog 30 #[.pointer none, .int .i64 v] w fun e w' => e = .returned (.bool false) ∧ w = w' := by
  go_enter Try.func30, Try.ntmps30
  go_wp2
  go_ret
  exact ⟨rfl, rfl⟩
set_option maxHeartbeats 1000000 in
theorem AddNil (w : World) (v : Int) : Calls Try.prog 26 #[.pointer none, .int .i64 v] w fun e w' => e = .returned (.bool false) ∧ w = w' := by
  go_enter Try.func26, Try.ntmps26
  go_wp2
  go_ret
  exact ⟨rfl, rfl⟩
set_option maxHeartbeats 1000000 in
theorem LenNil (w : World) : Calls Try.prog 38 #[.pointer none] w fun e w' => e = .returned (.int .i64 0) ∧ w = w' := by
  go_enter Try.func38, Try.ntmps38
  go_wp2
  go_ret
  exact ⟨rfl, rfl⟩
set_option maxHeartbeats 1000000 in
theorem AtNil (w : World) (v : Int) : Calls Try.prog 39 #[.pointer none, .int .i64 v] w fun e w' => e = .returned (.tuple #[.int .i64 0, .bool false]) ∧ w = w' := by
  go_enter Try.func39, Try.ntmps39
  go_wp2
  go_ret2
  exact ⟨rfl, rfl⟩
set_option maxHeartbeats 1000000 in
theorem ClearNil (w : World) : Calls Try.prog 37 #[.pointer none] w fun e w' => e = .returned (.tuple #[]) ∧ w = w' := by
  go_enter Try.func37, Try.ntmps37
  go_wp2
  go_end0
  exact ⟨rfl, rfl⟩
set_option maxHeartbeats 1000000 in
theorem ValuesNil (w : World) : Calls Try.prog 34 #[.pointer none] w fun e w' => e = .returned (.slice none 0 0) ∧ w = w' := by
  go_enter Try.func34, Try.ntmps34
  go_wp2
  go_ret
  exact ⟨rfl, rfl⟩
end Go.Proofs.Ytpebemljgeammaa.Spint
