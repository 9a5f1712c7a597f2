/-
  sparse.Set[int]: New, Clear, Values; nil sets.
-/
import Derived.Test.YtpebemljgeammaaSpint
import Derived.Test.YtpebemljgeammaaClint
import Derived.Test.YtpebemljgeammaaWMore
namespace Go.Proofs.Ytpebemljgeammaa.Spint
set_option linter.unusedVariables false
set_option linter.unusedSimpArgs false
open Go.RowKit Go.Proofs.YtpebemljgeammaaW.PrintWords Go.Proofs.Ytpebemljgeammaa.Hp Go.Proofs.Ytpebemljgeammaa.Sp0 Go.Proofs.YtpebemljgeammaaW.PrintMore
attribute [local go_sem] max2_int min2_int max_two min_two

theorem info_3 : (Try.prog.info? 3).map (fun i => (i.zero, i.size, i.bytes)) = some (some (.int .i64 0), 1, 8) := by kernel_rfl


def NewPost (w : World) (N : Nat) (e : Ending) (w' : World) : Prop :=
  ∃ g, e = .returned (.pointer (some ⟨g, 0, none⟩)) ∧ IsSet 95 3 .i64 N [] g w.heap.size (fun b => w.heap.size ≤ b) w' ∧ Below w.heap.size w w'

theorem made (w : World) (N : Nat) (hN : N ≤ 65536) (C : Array Value) (hC : C = madeCells #[.int .i64 0] N) :
    NewPost w N (.returned (.pointer (some ⟨w.heap.size + 1, 0, none⟩))) ((w.alloc (.cells C 3)).alloc (.cells #[.slice (some ⟨w.heap.size, 0, none⟩) N N, .slice none 0 0] 95)) := by
  have hb : Below w.heap.size w ((w.alloc (.cells C 3)).alloc (.cells #[.slice (some ⟨w.heap.size, 0, none⟩) N N, .slice none 0 0] 95)) := below_alloc (below_alloc (Below.refl _ _) _) _
  refine ⟨_, rfl, ⟨w.heap.size, .slice none 0 0, C, { hg := ?_, hw := ?_, ho := own_nil _ _ _ _, bg := by omega, bw := Nat.le_refl _, ne := by omega, og := by simp [Value.ownBlock], ow := by simp [Value.ownBlock], sz := ?_, hN := hN, hx := by simp, nd := List.nodup_nil, hv := ?_ }, ?_, ?_, ?_⟩, hb⟩
  · have := heap_alloc_new (w.alloc (.cells C 3)) (.cells #[.slice (some ⟨w.heap.size, 0, none⟩) N N, .slice none 0 0] 95)
    simpa using this
  · rw [Below.heap_alloc _ _ _ (by simp)]
    exact heap_alloc_new w _
  · subst hC; simp [madeCells]
  · intro j hj
    refine ⟨0, ?_, by omega, by simp⟩
    subst hC
    simp [madeCells, hj, Nat.mod_one]
  · show w.heap.size ≤ w.heap.size + 1; omega
  · exact Nat.le_refl _
  · simp [Value.ownBlock]

set_option maxRecDepth 1000000 in
set_option maxHeartbeats 1000000 in
theorem New (w : World) (size : Int) (hs : (Lit.int .i64 size).wf = true) :
    Calls Try.prog 22 #[.int .i64 size] w fun e w' => NewPost w (setSize size) e w' := by
  by_cases h0 : size < 0
  · have hmk : ∀ W : World, (Instr.makeSlice 24 (.int .i64 0) (.int .i64 0)).run Try.prog W = .ok (.slice (some ⟨W.heap.size, 0, none⟩) 0 0) (W.alloc (.cells (madeCells #[.int .i64 0] 0) 3)) := fun W => print_make (P := Try.prog) 24 3 .i64 8 Try.underlying24 info_3 (by decide) 0 (by omega) W
    have e : setSize size = 0 := by unfold setSize; omega
    have hm := made w 0 (by omega) _ rfl
    rw [e]
    obtain ⟨C, hC⟩ : ∃ C, C = madeCells #[.int .i64 0] 0 := ⟨_, rfl⟩
    rw [← hC] at hmk hm
    have HM := Aside0.mk hm
    clear hC e hm
    go_enter Try.func22, Try.ntmps22
    go_wp2
    go_ret
    exact HM.out
  · by_cases h1 : 65536 < size
    · have hmk : ∀ W : World, (Instr.makeSlice 24 (.int .i64 65536) (.int .i64 65536)).run Try.prog W = .ok (.slice (some ⟨W.heap.size, 0, none⟩) 65536 65536) (W.alloc (.cells (madeCells #[.int .i64 0] 65536) 3)) := fun W => print_make (P := Try.prog) 24 3 .i64 8 Try.underlying24 info_3 (by decide) 65536 (by omega) W
      have e : setSize size = 65536 := by unfold setSize; omega
      have hm := made w 65536 (by omega) _ rfl
      rw [e]
      obtain ⟨C, hC⟩ : ∃ C, C = madeCells #[.int .i64 0] 65536 := ⟨_, rfl⟩
      rw [← hC] at hmk hm
      have HM := Aside0.mk hm
      clear hC e hm
      go_enter Try.func22, Try.ntmps22
      go_wp2
      go_ret
      exact HM.out
    · obtain ⟨m, rfl⟩ : ∃ m : Nat, size = m := ⟨size.toNat, by omega⟩
      have hmk := fun W => print_make (P := Try.prog) 24 3 .i64 8 Try.underlying24 info_3 (by decide) m (by omega) W
      have e : setSize m = m := by unfold setSize; omega
      have hm := made w m (by omega) _ rfl
      rw [e]
      obtain ⟨C, hC⟩ : ∃ C, C = madeCells #[.int .i64 0] m := ⟨_, rfl⟩
      rw [← hC] at hmk hm
      have HM := Aside0.mk hm
      clear hC e hm
      go_enter Try.func22, Try.ntmps22
      go_wp2
      go_ret
      exact HM.out

def ValPost (w : World) (xs : List Int) (e : Ending) (w' : World) : Prop :=
  ∃ v, e = .returned v ∧ w'.ownsRow w.heap.size 3 1 v xs.length (nums .i64 xs) ∧ Below w.heap.size w w'

set_option maxHeartbeats 1000000 in
theorem Values (w : World) (base g : Nat) (ok : Nat → Prop) (N : Nat) (xs : List Int) (h : IsSet 95 3 .i64 N xs g base ok w) :
    Calls Try.prog 34 #[.pointer (some ⟨g, 0, none⟩)] w (ValPost w xs) := by
  obtain ⟨gw, ov, ws, h, _⟩ := h
  have c1 : w.cell? ⟨g, 1, none⟩ = some ov := by simp [World.cell?, h.hg]
  obtain ⟨A, c, rfl, hr⟩ := own_reads h.ho
  have hl := h.len
  have hN := h.hN
  have HR := Aside0.mk hr
  clear h hr
  go_enter Try.func34, Try.ntmps34
  go_wp2_with (go_at_call 62; refine (Clint.clone w A _ c xs HR.out (by omega)).mono ?_; rintro e w' ⟨v, rfl, h1, h2⟩)
  go_ret
  exact ⟨_, rfl, h1, h2⟩

end Go.Proofs.Ytpebemljgeammaa.Spint
