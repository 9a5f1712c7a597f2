/-
  Walks of what reads and writes one number: posting.Read, tremaref14.Read, posting.appendNumber, posting.Number.
-/
import Derived.Test.YtpebemljgeammabPn
import Derived.Test.YtpebemljgeammabFm
import Derived.Test.YtpebemljgeammabCluint8
import Derived.WalkSpells
import Derived.WalkLawsBesides
namespace Go.Proofs.Ytpebemljgeammab.Pw
set_option linter.unusedVariables false
set_option linter.unusedSimpArgs false
open Go.RowKit Go.Proofs.YtpebemljgeammabW.PrintWords Go.Proofs.Ytpebemljgeammab.Hp Go.Proofs.Ytpebemljgeammab.Fm Go.Proofs.Ytpebemljgeammab.Pn Go.Proofs.Ytpebemljgeammab.PPostingKeeps

abbrev KB : Kd Int := Kd.int .u8
theorem info_8 : (Try.prog.info? 5).map (fun i => (i.zero, i.size, i.bytes)) = some (some (.int .u8 0), 1, 1) := by kernel_rfl

theorem ReadP (w : World) (A : Option Addr) (n c : Nat) (b : List Int) (hC : KB.C w A n b) (hB : Byt b) (hn : n = b.length) (hc : n ≤ c) (hl : n ≤ 140737488355328) (v k : Nat) (hr : rd1 b = (v, k)) :
    Calls Try.prog 15 #[.slice A n c] w fun e w' => e = .returned (.tuple #[.int .u64 v, .int .i64 k]) ∧ Drawn0 w w' := by
  subst hn
  refine (posting_Read.calls (2 * b.length + 1) A c b v k w hC hc ?_)
  rw [read_pure b hB hl, hr]
set_option maxRecDepth 100000 in
theorem or128 : ∀ x : Fin 256, Go.bits .or .u8 ((x.1 : Nat) : Int) 128 = ((x.1 % 128 + 128 : Nat) : Int) := by decide
theorem or_byte (m : Nat) : Go.bits .or .u8 ((m : Int) % 256) 128 = ((m % 128 + 128 : Nat) : Int) := by
  have h := or128 ⟨m % 256, by omega⟩
  have e1 : (((⟨m % 256, by omega⟩ : Fin 256).1 : Nat) : Int) = (m : Int) % 256 := by simp
  rw [e1] at h
  rw [h]
  congr 1
  show m % 256 % 128 + 128 = m % 128 + 128
  omega
theorem set_self {α : Type} {l : List α} {i : Nat} {x : α} (h : l[i]? = some x) : l.set i x = l := by
  obtain ⟨hl, e⟩ := List.getElem?_eq_some_iff.1 h
  rw [← e]
  exact List.set_getElem_self hl
theorem rd_at' {w : World} {k : IntKind} {A : Option Addr} {n : Nat} {xs : List Int} (h : ReadsInt w k A n xs) (j : Nat) (hj : j < n) : ∃ ad, A = some ad ∧ w.cell? (ad.add j) = some (.int k (rd xs j)) := by
  obtain ⟨ad, e, h2⟩ := h.2.2 (by omega)
  refine ⟨ad, e, ?_⟩
  have h3 := h2 j (by omega)
  rw [h3]
  unfold rd
  simp
theorem reps_nums {k : IntKind} {w : World} {base : Nat} {ok : Nat → Prop} : ∀ xs : List Int, Reps ((Kd.int k).M w base ok) 1 xs (nums k xs)
  | [] => Reps.none _ _
  | x :: xs => Reps.one rfl (reps_nums xs)
/-- An own row of numbers as a thing. -/
theorem R_of_own {k : IntKind} {e base : Nat} {w : World} {v : Value} {xs : List Int} (h : w.ownsRow base e 1 v xs.length (nums k xs)) : (Kd.int k).R e w base (fun b => base ≤ b) v xs :=
  ⟨fun b hb => own_base h b hb, _, h, reps_nums xs⟩
theorem Sep.more {w0 w w' : World} {L : List Th} {α : Type} {d : Kd α} {e : Nat} {v : Value} {xs : List α} (h : Sep w0 L w) (h2 : Sep w [rowT d e w.heap.size v xs] w') : Sep w0 (L ++ [rowT d e w0.heap.size v xs]) w' := by
  obtain ⟨ok, h1, h3, h4⟩ := h2.op 0 _ rfl
  have h1' : d.R e w' w.heap.size ok v xs := h1
  exact h.new (rowT d e w0.heap.size v xs) (Kd.R_lower h1' h.below.size) h3 h2.below

section
variable {w0 w : World} {L : List Th}
set_option maxRecDepth 100000 in
set_option maxHeartbeats 1000000 in
/-- appendNumber: onto one of the things. -/
theorem AppS (h : Sep w0 L w) (i : Nat) {v : Value} {xs : List Int} (hi : L[i]? = some (rowT KB 5 w0.heap.size v xs)) (N : Nat) (hN : N < 18446744073709551616) (hlen : xs.length + (num N).length ≤ 140737488355328) :
    Calls Try.prog 23 #[v, .int .u64 N] w fun e w' => ∃ v', e = .returned v' ∧ Sep w0 (L.set i (rowT KB 5 w0.heap.size v' (xs ++ num N))) w' := by
  have hil : i < L.length := (List.getElem?_eq_some_iff.1 hi).1
  obtain ⟨A, c, rfl, -, -⟩ := h.reads i hi
  have H := Aside0.mk h
  have HI := Aside0.mk hi
  have HLEN := Aside0.mk hlen
  clear h hi hlen
  go_enter Try.func23, Try.ntmps23
  go_wp2
  go_loopw [0, 1] (fun bv nv wr => ∃ (m : Nat) (pre : List Int), nv = .int .u64 m ∧ m < 18446744073709551616 ∧ Aside0 (num N = pre ++ num m) ∧ Aside0 (Sep w0 (L.set i (rowT KB 5 w0.heap.size bv (xs ++ pre))) wr)) (fun _ nv _ => (intOf nv).toNat)
  case atStart => exact ⟨N, [], rfl, hN, ⟨rfl⟩, ⟨by rw [List.append_nil, set_self HI.out]; exact H.out⟩⟩
  case round =>
    obtain ⟨m, pre, rfl, hm, HE, HS⟩ := hrel
    clear HI H
    have hi1 : (L.set i (rowT KB 5 w0.heap.size u0 (xs ++ pre)))[i]? = some (rowT KB 5 w0.heap.size u0 (xs ++ pre)) := List.getElem?_set_self hil
    have hs1 := HS.out.below.size
    have HL1 := Aside0.mk (show ((xs ++ pre).length + 1) * 1 ≤ 140737488355328 by
      have h1 := HLEN.out
      have h2 := num_pos m
      rw [HE.out] at h1
      simp only [List.length_append] at h1 ⊢; omega)
    obtain ⟨ok1, hR1, hf1, hN1⟩ := HS.out.row i hi1
    have HR1 := Aside0.mk hR1
    have HF1 := Aside0.mk hf1
    have HN1 := Aside0.mk hN1
    clear hR1 hf1 hN1
    clear hi1
    obtain ⟨A1, c1, rfl⟩ := Kd.R_slice HR1.out
    obtain ⟨ys, hys⟩ : ∃ ys, ys = xs ++ pre := ⟨_, rfl⟩
    rw [← hys] at HR1 HN1 HL1 HS ⊢
    have HYS := Aside0.mk hys
    obtain ⟨yn, hyn⟩ : ∃ yn, yn = ys.length := ⟨_, rfl⟩
    clear hys
    by_cases hge : 128 ≤ m
    · have hd : decide ((128 : Int) ≤ (m : Int)) = true := by simp; omega
      have hor := or_byte m
      obtain ⟨x, hx⟩ : ∃ x : Int, x = ((m % 128 + 128 : Nat) : Int) := ⟨_, rfl⟩
      rw [← hx] at hor
      have HX := Aside0.mk hx
      clear hx
      go_wp2_with (at_builtin; go_must (refine Kd.R_append KB (w0 := wr) w0.heap.size rfl (.tmp 9) (.tmp 13) 22 5 (.int .u8 0) 1 rfl Try.underlying22 info_8 rfl (by decide) (by decide) (.slice A1 ys.length c1) ys x [.int .u8 x] ok1 (fun _ => False) rfl rfl rfl (fun _ h => h.elim) HF1.out HR1.out (Below.refl _ _) hs1 HL1.out ?hh))
      case hh =>
        intro v1 w1 hR7 hb7 hg7 hat7
        have hS7 := HN1.out v1 w1 _ hR7 hg7
        rw [List.set_set, HYS.out, List.append_assoc] at hS7
        have HS7 := Aside0.mk hS7
        clear hS7 hR7 hb7 hg7 hat7
        go_wp2
        go_roundw
        case rel => exact ⟨m / 128, pre ++ [x], by go_num, by omega, ⟨by rw [HE.out, num_big hge, HX.out]; simp⟩, HS7⟩
        case measure => simp [intOf]; omega
    · have hd : decide ((128 : Int) ≤ (m : Int)) = false := by simp; omega
      have hmod : (m : Int) % 256 = (m : Int) := by omega
      go_wp2_with (at_builtin; go_must (refine Kd.R_append KB (w0 := wr) w0.heap.size rfl (.tmp 15) (.tmp 18) 22 5 (.int .u8 0) 1 rfl Try.underlying22 info_8 rfl (by decide) (by decide) (.slice A1 ys.length c1) ys (m : Int) [.int .u8 (m : Int)] ok1 (fun _ => False) rfl rfl rfl (fun _ h => h.elim) HF1.out HR1.out (Below.refl _ _) hs1 HL1.out ?hh))
      case hh =>
        intro v1 w1 hR7 hb7 hg7 hat7
        have hS7 := HN1.out v1 w1 _ hR7 hg7
        rw [List.set_set, HYS.out, List.append_assoc, ← num_small (by omega), ← HE.out] at hS7
        have HS7 := Aside0.mk hS7
        clear hS7 hR7 hb7 hg7 hat7
        go_wp2
        go_ret
        exact ⟨_, rfl, HS7.out⟩
end
set_option maxRecDepth 100000 in
set_option maxHeartbeats 1000000 in
/-- Number: a new row. -/
theorem NumberP (w0 : World) (A : Option Addr) (n c : Nat) (xs : List Int) (hC : KB.C w0 A n xs) (hn : n = xs.length) (hc : n ≤ c) (N : Nat) (hN : N < 18446744073709551616) (hlen : n + (num N).length ≤ 140737488355328) :
    Calls Try.prog 14 #[.slice A n c, .int .u64 N] w0 fun e w' => ∃ v', e = .returned v' ∧ Sep w0 [rowT KB 5 w0.heap.size v' (xs ++ num N)] w' := by
  subst hn
  have HC := Aside0.mk hC
  have HLEN := Aside0.mk hlen
  have hl0 : xs.length ≤ 140737488355328 := by omega
  clear hC hlen
  go_enter Try.func14, Try.ntmps14
  go_wp2_with (first | (go_at_call 24; go_must (refine (Cluint8.clone w0 A xs.length c xs (rdint HC.out) (by omega)).mono ?_; rintro e w1 ⟨v1, rfl, p1, p2⟩; have P0 := Aside0.mk ((Sep.nil w0).new (rowT KB 5 w0.heap.size v1 xs) (ok := fun b => w0.heap.size ≤ b) (R_of_own p1) (fun _ h => h) p2); clear p1 p2)))
  go_loopw [5, 1] (fun bv nv wr => ∃ (m : Nat) (pre : List Int), nv = .int .u64 m ∧ m < 18446744073709551616 ∧ Aside0 (num N = pre ++ num m) ∧ Aside0 (Sep w0 [rowT KB 5 w0.heap.size bv (xs ++ pre)] wr)) (fun _ nv _ => (intOf nv).toNat)
  case atStart => exact ⟨N, [], rfl, hN, ⟨rfl⟩, ⟨by rw [List.append_nil]; exact P0.out⟩⟩
  case round =>
    obtain ⟨m, pre, rfl, hm, HE, HS⟩ := hrel
    clear P0
    have hs1 := HS.out.below.size
    have HL1 := Aside0.mk (show ((xs ++ pre).length + 1) * 1 ≤ 140737488355328 by
      have h1 := HLEN.out
      have h2 := num_pos m
      rw [HE.out] at h1
      simp only [List.length_append] at h1 ⊢; omega)
    obtain ⟨ok1, hR1, hf1, hN1⟩ := HS.out.row 0 rfl
    have HR1 := Aside0.mk hR1
    have HF1 := Aside0.mk hf1
    have HN1 := Aside0.mk hN1
    clear hR1 hf1 hN1
    obtain ⟨A1, c1, rfl⟩ := Kd.R_slice HR1.out
    obtain ⟨ys, hys⟩ : ∃ ys, ys = xs ++ pre := ⟨_, rfl⟩
    rw [← hys] at HR1 HN1 HL1 HS ⊢
    have HYS := Aside0.mk hys
    clear hys
    by_cases hge : 128 ≤ m
    · have hd : decide ((128 : Int) ≤ (m : Int)) = true := by simp; omega
      have hor := or_byte m
      obtain ⟨x, hx⟩ : ∃ x : Int, x = ((m % 128 + 128 : Nat) : Int) := ⟨_, rfl⟩
      rw [← hx] at hor
      have HX := Aside0.mk hx
      clear hx
      go_wp2_with (at_builtin; go_must (refine Kd.R_append KB (w0 := wr) w0.heap.size rfl (.tmp 10) (.tmp 14) 22 5 (.int .u8 0) 1 rfl Try.underlying22 info_8 rfl (by decide) (by decide) (.slice A1 ys.length c1) ys x [.int .u8 x] ok1 (fun _ => False) rfl rfl rfl (fun _ h => h.elim) HF1.out HR1.out (Below.refl _ _) hs1 HL1.out ?hh))
      case hh =>
        intro v1 w1 hR7 hb7 hg7 hat7
        have hS7 := HN1.out v1 w1 _ hR7 hg7
        rw [HYS.out, List.append_assoc] at hS7
        have HS7 := Aside0.mk hS7
        clear hS7 hR7 hb7 hg7 hat7
        go_wp2
        go_roundw
        case rel => exact ⟨m / 128, pre ++ [x], by go_num, by omega, ⟨by rw [HE.out, num_big hge, HX.out]; simp⟩, HS7⟩
        case measure => simp [intOf]; omega
    · have hd : decide ((128 : Int) ≤ (m : Int)) = false := by simp; omega
      have hmod : (m : Int) % 256 = (m : Int) := by omega
      go_wp2_with (at_builtin; go_must (refine Kd.R_append KB (w0 := wr) w0.heap.size rfl (.tmp 18) (.tmp 21) 22 5 (.int .u8 0) 1 rfl Try.underlying22 info_8 rfl (by decide) (by decide) (.slice A1 ys.length c1) ys (m : Int) [.int .u8 (m : Int)] ok1 (fun _ => False) rfl rfl rfl (fun _ h => h.elim) HF1.out HR1.out (Below.refl _ _) hs1 HL1.out ?hh))
      case hh =>
        intro v1 w1 hR7 hb7 hg7 hat7
        have hS7 := HN1.out v1 w1 _ hR7 hg7
        rw [HYS.out, List.append_assoc, ← num_small (by omega), ← HE.out] at hS7
        have HS7 := Aside0.mk hS7
        clear hS7 hR7 hb7 hg7 hat7
        go_wp2
        go_ret
        exact ⟨_, rfl, HS7.out⟩
end Go.Proofs.Ytpebemljgeammab.Pw
