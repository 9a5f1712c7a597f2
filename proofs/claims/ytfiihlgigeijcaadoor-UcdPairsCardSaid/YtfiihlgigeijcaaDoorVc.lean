/-
  ucd.named and ucd.Pair walked.
-/
import Derived.Test.YtfiihlgigeijcaaDoorVa
import Derived.Laws.RangeString
import Derived.Deep.RegionHeld3
namespace Go.Proofs.YtfiihlgigeijcaaDoor.Vc
set_option linter.unusedVariables false
set_option linter.unusedSimpArgs false
open Go.RowKit Go.Proofs.YtfiihlgigeijcaaDoorW.PrintWords Go.Proofs.YtfiihlgigeijcaaDoor.Hp Go.Proofs.YtfiihlgigeijcaaDoor.Va

abbrev nmS : ByteArray := ⟨#[103, 97, 99, 116, 109, 98, 112, 100, 114, 113, 118, 101, 111]⟩
def nmL : List Int := [103, 97, 99, 116, 109, 98, 112, 100, 114, 113, 118, 101, 111]
/-- The mark of a letter, from place i on. -/
def nmF (c : Int) : List Int → List Int → Int
  | a :: l, m :: t => if a = c then m else nmF c l t
  | _, _ => 0
def nmd (c : Int) : Int := nmF c nmL mksT
theorem nm_ascii : ∀ p : Fin 13, (nmS[p.1]'(p.2)).toNat < 128 ∧ (((nmS[p.1]'(p.2)).toNat : Nat) : Int) = nmL.getD p.1 0 := by decide
theorem nm_next (w : World) (pos : Nat) (h : pos < 13) (ty : TypeId) : (Instr.next (.pointer (some ⟨w.heap.size, 0, none⟩)) true ty).run Tryd.prog (w.iter nmS pos) = .ok (.tuple #[.bool true, .int .i64 pos, .int .i32 (nmL.getD pos 0)]) (w.iter nmS (pos + 1)) := by
  have h1 := nm_ascii ⟨pos, h⟩
  have := run_next_ascii (P := Tryd.prog) w nmS pos ty h h1.1
  rw [h1.2] at this
  exact this
theorem iter_below (w : World) (pos : Nat) : Below w.heap.size w (w.iter nmS pos) := below_alloc (Below.refl _ _) _
theorem iter_pos (w : World) (pos : Nat) : (w.iter nmS pos).iterPos w.heap.size = pos := by simp [World.iterPos, World.iter_heap]
set_option maxRecDepth 100000 in
set_option maxHeartbeats 1000000 in
theorem NamedP (w : World) (hG : G w) (c : Int) (hc : 0 ≤ c ∧ c < 256) : Calls Tryd.prog 35 #[.int .u8 c] w fun e w' => e = .returned (.int .i32 (nmd c)) ∧ Below w.heap.size w w' := by
  have HG := Aside0.mk hG
  clear hG
  have hcv : wrap32 c = c := by unfold wrap32; omega
  go_enter Tryd.func35, Tryd.ntmps35
  go_wp2
  go_loopw [6] (fun _ wr => ∃ pos : Nat, pos ≤ 13 ∧ wr = w.iter nmS pos ∧ Aside0 (nmd c = nmF c (nmL.drop pos) (mksT.drop pos))) (fun _ wr => 13 - wr.iterPos w.heap.size)
  case atStart => exact ⟨0, Nat.zero_le _, rfl, ⟨rfl⟩⟩
  case round =>
    obtain ⟨pos, hp, rfl, HE⟩ := hrel
    by_cases hlt : pos < 13
    · have hnx := nm_next w pos hlt
      have hcell0 : w.cell? ⟨2, 0 + pos, none⟩ = some (.int .i32 (mksT.getD pos 0)) := HG.out.2.2 pos _ (by
        have : pos < mksT.length := hlt
        simp [nums, List.getElem?_eq_getElem this])
      have hcell := ((iter_below w (pos + 1)).cell (World.block_lt_of_cell? w _ hcell0)).trans hcell0
      rw [Nat.zero_add] at hcell
      have he := HE.out
      have hd1 : nmL.drop pos = nmL.getD pos 0 :: nmL.drop (pos + 1) := by
        have h1 : pos < nmL.length := hlt
        rw [List.drop_eq_getElem_cons h1]
        simp [List.getElem?_eq_getElem h1]
      have hd2 : mksT.drop pos = mksT.getD pos 0 :: mksT.drop (pos + 1) := by
        have h1 : pos < mksT.length := hlt
        rw [List.drop_eq_getElem_cons h1]
        simp [List.getElem?_eq_getElem h1]
      rw [hd1, hd2, nmF] at he
      obtain ⟨a, ha⟩ : ∃ a, a = nmL.getD pos 0 := ⟨_, rfl⟩
      obtain ⟨m, hm⟩ : ∃ m, m = mksT.getD pos 0 := ⟨_, rfl⟩
      rw [← ha] at hnx he
      rw [← hm] at hcell he
      have NB := Aside0.mk (iter_below w (pos + 1))
      have MU := Aside0.mk (iter_pos w pos)
      have MU1 := Aside0.mk (iter_pos w (pos + 1))
      clear hcell0 hd1 hd2 ha hm
      by_cases hac : a = c
      · rw [if_pos hac] at he
        have hac2 : (a == c) = true := by simpa using hac
        have HE1 := Aside0.mk he
        clear he hac
        go_wp2
        go_ret
        exact ⟨by rw [HE1.out]; rfl, NB.out⟩
      · rw [if_neg hac] at he
        have hac2 : (a == c) = false := by simpa using hac
        have HE1 := Aside0.mk he
        clear he hac
        go_wp2
        go_roundw
        case rel => exact ⟨pos + 1, by omega, rfl, HE1⟩
        case measure => rw [MU.out, MU1.out]; omega
    · obtain rfl : pos = 13 := by omega
      have hnx := fun ty => run_next_end (P := Tryd.prog) w nmS 13 ty (by decide)
      have HE1 := Aside0.mk (show nmd c = 0 from HE.out)
      have NB := Aside0.mk (iter_below w 13)
      go_wp2
      go_ret
      exact ⟨by rw [HE1.out]; rfl, NB.out⟩

abbrev latL : ByteArray := ⟨#[65, 65, 65, 65, 65, 65, 46, 67, 69, 69, 69, 69, 73, 73, 73, 73, 46, 78, 79, 79, 79, 79, 79, 46, 46, 85, 85, 85, 85, 89, 46, 46, 97, 97, 97, 97, 97, 97, 46, 99, 101, 101, 101, 101, 105, 105, 105, 105, 46, 110, 111, 111, 111, 111, 111, 46, 46, 117, 117, 117, 117, 121, 46, 121]⟩
abbrev latM : ByteArray := ⟨#[103, 97, 99, 116, 100, 114, 46, 101, 103, 97, 99, 100, 103, 97, 99, 100, 46, 116, 103, 97, 99, 116, 100, 46, 46, 103, 97, 99, 100, 97, 46, 46, 103, 97, 99, 116, 100, 114, 46, 101, 103, 97, 99, 100, 103, 97, 99, 100, 46, 116, 103, 97, 99, 116, 100, 46, 46, 103, 97, 99, 100, 97, 46, 100]⟩
abbrev morL : ByteArray := ⟨#[65, 97, 65, 97, 65, 97, 67, 99, 67, 99, 67, 99, 67, 99, 68, 100, 46, 46, 69, 101, 69, 101, 69, 101, 69, 101, 69, 101, 71, 103, 71, 103, 71, 103, 71, 103, 72, 104, 46, 46, 73, 105, 73, 105, 73, 105, 73, 105, 73, 46, 46, 46, 74, 106, 75, 107, 46, 76, 108, 76, 108, 76, 108, 46, 46, 46, 46, 78, 110, 78, 110, 78, 110, 46, 46, 46, 79, 111, 79, 111, 79, 111, 46, 46, 82, 114, 82, 114, 82, 114, 83, 115, 83, 115, 83, 115, 83, 115, 84, 116, 84, 116, 46, 46, 85, 117, 85, 117, 85, 117, 85, 117, 85, 117, 85, 117, 87, 119, 89, 121, 89, 90, 122, 90, 122, 90, 122, 46]⟩
abbrev morM : ByteArray := ⟨#[109, 109, 98, 98, 111, 111, 97, 97, 99, 99, 112, 112, 118, 118, 118, 118, 46, 46, 109, 109, 98, 98, 112, 112, 111, 111, 118, 118, 99, 99, 98, 98, 112, 112, 101, 101, 99, 99, 46, 46, 116, 116, 109, 109, 98, 98, 111, 111, 112, 46, 46, 46, 99, 99, 101, 101, 46, 97, 97, 101, 101, 118, 118, 46, 46, 46, 46, 97, 97, 101, 101, 118, 118, 46, 46, 46, 109, 109, 98, 98, 113, 113, 46, 46, 97, 97, 101, 101, 118, 118, 97, 97, 99, 99, 101, 101, 118, 118, 101, 101, 118, 118, 46, 46, 116, 116, 109, 109, 98, 98, 114, 114, 113, 113, 111, 111, 99, 99, 99, 99, 100, 97, 97, 112, 112, 118, 118, 46]⟩
def byt (s : ByteArray) (i : Nat) : Int := ((s.data.toList.getD i 0).toNat : Int)
theorem byt_range (s : ByteArray) (i : Nat) : 0 ≤ byt s i ∧ byt s i < 256 := by
  unfold byt
  have := UInt8.toNat_lt (s.data.toList.getD i 0)
  omega
def prsF (r : Int) : List (Int × Int × Int) → Int × Int × Int
  | [] => (0, 0, 0)
  | p :: t => if p.1 = r then (if p.2.2 = 0 then (p.2.1, 0, 1) else (p.2.1, p.2.2, 2)) else prsF r t
def ltr (L M : ByteArray) (i : Nat) : Int × Int × Int := if byt L i = 46 then (0, 0, 0) else (byt L i, nmd (byt M i), 2)
def pairU (r : Int) : Int × Int × Int :=
  if 44032 ≤ r ∧ r ≤ 55203 then (if (r - 44032) % 28 = 0 then (4352 + (r - 44032) / 588, 4449 + (r - 44032) % 588 / 28, 2) else (r - (r - 44032) % 28, 4519 + (r - 44032) % 28, 2))
  else if 256 ≤ r ∧ r < 384 then ltr morL morM (r - 256).toNat
  else if r < 192 ∨ 255 < r then prsF r prsT
  else ltr latL latM (r - 192).toNat
theorem idxS (s : ByteArray) (i : Nat) (h : i < s.size) (W : World) : (Instr.index 9 (.string s) (.int .i32 (i : Int))).run Tryd.prog W = .ok (.int .u8 (byt s i)) W := by
  rw [run_index_string W 9 s .i32 (i : Int) Tryd.underlying9, dif_pos ⟨by omega, by omega⟩]
  congr 2
  unfold byt
  have h1 : i < s.data.toList.length := by simpa using h
  simp only [Int.toNat_natCast, List.getD_eq_getElem?_getD, List.getElem?_eq_getElem h1, Option.getD_some]
  rfl
theorem iy0 : ∀ W : World, (Instr.index 48 (.agg (cells3 prsT).toArray) (.int .i64 0)).run Tryd.prog W = .ok (.agg #[.int .i32 (prsT.getD 0 (0, 0, 0)).1, .int .i32 (prsT.getD 0 (0, 0, 0)).2.1, .int .i32 (prsT.getD 0 (0, 0, 0)).2.2]) W := fun _ => by kernel_rfl
theorem iy1 : ∀ W : World, (Instr.index 48 (.agg (cells3 prsT).toArray) (.int .i64 1)).run Tryd.prog W = .ok (.agg #[.int .i32 (prsT.getD 1 (0, 0, 0)).1, .int .i32 (prsT.getD 1 (0, 0, 0)).2.1, .int .i32 (prsT.getD 1 (0, 0, 0)).2.2]) W := fun _ => by kernel_rfl
theorem iy2 : ∀ W : World, (Instr.index 48 (.agg (cells3 prsT).toArray) (.int .i64 2)).run Tryd.prog W = .ok (.agg #[.int .i32 (prsT.getD 2 (0, 0, 0)).1, .int .i32 (prsT.getD 2 (0, 0, 0)).2.1, .int .i32 (prsT.getD 2 (0, 0, 0)).2.2]) W := fun _ => by kernel_rfl
theorem iy3 : ∀ W : World, (Instr.index 48 (.agg (cells3 prsT).toArray) (.int .i64 3)).run Tryd.prog W = .ok (.agg #[.int .i32 (prsT.getD 3 (0, 0, 0)).1, .int .i32 (prsT.getD 3 (0, 0, 0)).2.1, .int .i32 (prsT.getD 3 (0, 0, 0)).2.2]) W := fun _ => by kernel_rfl
theorem iy4 : ∀ W : World, (Instr.index 48 (.agg (cells3 prsT).toArray) (.int .i64 4)).run Tryd.prog W = .ok (.agg #[.int .i32 (prsT.getD 4 (0, 0, 0)).1, .int .i32 (prsT.getD 4 (0, 0, 0)).2.1, .int .i32 (prsT.getD 4 (0, 0, 0)).2.2]) W := fun _ => by kernel_rfl
theorem iy5 : ∀ W : World, (Instr.index 48 (.agg (cells3 prsT).toArray) (.int .i64 5)).run Tryd.prog W = .ok (.agg #[.int .i32 (prsT.getD 5 (0, 0, 0)).1, .int .i32 (prsT.getD 5 (0, 0, 0)).2.1, .int .i32 (prsT.getD 5 (0, 0, 0)).2.2]) W := fun _ => by kernel_rfl
theorem iy6 : ∀ W : World, (Instr.index 48 (.agg (cells3 prsT).toArray) (.int .i64 6)).run Tryd.prog W = .ok (.agg #[.int .i32 (prsT.getD 6 (0, 0, 0)).1, .int .i32 (prsT.getD 6 (0, 0, 0)).2.1, .int .i32 (prsT.getD 6 (0, 0, 0)).2.2]) W := fun _ => by kernel_rfl
theorem iy7 : ∀ W : World, (Instr.index 48 (.agg (cells3 prsT).toArray) (.int .i64 7)).run Tryd.prog W = .ok (.agg #[.int .i32 (prsT.getD 7 (0, 0, 0)).1, .int .i32 (prsT.getD 7 (0, 0, 0)).2.1, .int .i32 (prsT.getD 7 (0, 0, 0)).2.2]) W := fun _ => by kernel_rfl
theorem iy8 : ∀ W : World, (Instr.index 48 (.agg (cells3 prsT).toArray) (.int .i64 8)).run Tryd.prog W = .ok (.agg #[.int .i32 (prsT.getD 8 (0, 0, 0)).1, .int .i32 (prsT.getD 8 (0, 0, 0)).2.1, .int .i32 (prsT.getD 8 (0, 0, 0)).2.2]) W := fun _ => by kernel_rfl
theorem iy9 : ∀ W : World, (Instr.index 48 (.agg (cells3 prsT).toArray) (.int .i64 9)).run Tryd.prog W = .ok (.agg #[.int .i32 (prsT.getD 9 (0, 0, 0)).1, .int .i32 (prsT.getD 9 (0, 0, 0)).2.1, .int .i32 (prsT.getD 9 (0, 0, 0)).2.2]) W := fun _ => by kernel_rfl
theorem iy10 : ∀ W : World, (Instr.index 48 (.agg (cells3 prsT).toArray) (.int .i64 10)).run Tryd.prog W = .ok (.agg #[.int .i32 (prsT.getD 10 (0, 0, 0)).1, .int .i32 (prsT.getD 10 (0, 0, 0)).2.1, .int .i32 (prsT.getD 10 (0, 0, 0)).2.2]) W := fun _ => by kernel_rfl
theorem iy11 : ∀ W : World, (Instr.index 48 (.agg (cells3 prsT).toArray) (.int .i64 11)).run Tryd.prog W = .ok (.agg #[.int .i32 (prsT.getD 11 (0, 0, 0)).1, .int .i32 (prsT.getD 11 (0, 0, 0)).2.1, .int .i32 (prsT.getD 11 (0, 0, 0)).2.2]) W := fun _ => by kernel_rfl
theorem iy12 : ∀ W : World, (Instr.index 48 (.agg (cells3 prsT).toArray) (.int .i64 12)).run Tryd.prog W = .ok (.agg #[.int .i32 (prsT.getD 12 (0, 0, 0)).1, .int .i32 (prsT.getD 12 (0, 0, 0)).2.1, .int .i32 (prsT.getD 12 (0, 0, 0)).2.2]) W := fun _ => by kernel_rfl
theorem iy13 : ∀ W : World, (Instr.index 48 (.agg (cells3 prsT).toArray) (.int .i64 13)).run Tryd.prog W = .ok (.agg #[.int .i32 (prsT.getD 13 (0, 0, 0)).1, .int .i32 (prsT.getD 13 (0, 0, 0)).2.1, .int .i32 (prsT.getD 13 (0, 0, 0)).2.2]) W := fun _ => by kernel_rfl
theorem iy14 : ∀ W : World, (Instr.index 48 (.agg (cells3 prsT).toArray) (.int .i64 14)).run Tryd.prog W = .ok (.agg #[.int .i32 (prsT.getD 14 (0, 0, 0)).1, .int .i32 (prsT.getD 14 (0, 0, 0)).2.1, .int .i32 (prsT.getD 14 (0, 0, 0)).2.2]) W := fun _ => by kernel_rfl
theorem iy15 : ∀ W : World, (Instr.index 48 (.agg (cells3 prsT).toArray) (.int .i64 15)).run Tryd.prog W = .ok (.agg #[.int .i32 (prsT.getD 15 (0, 0, 0)).1, .int .i32 (prsT.getD 15 (0, 0, 0)).2.1, .int .i32 (prsT.getD 15 (0, 0, 0)).2.2]) W := fun _ => by kernel_rfl
theorem iy16 : ∀ W : World, (Instr.index 48 (.agg (cells3 prsT).toArray) (.int .i64 16)).run Tryd.prog W = .ok (.agg #[.int .i32 (prsT.getD 16 (0, 0, 0)).1, .int .i32 (prsT.getD 16 (0, 0, 0)).2.1, .int .i32 (prsT.getD 16 (0, 0, 0)).2.2]) W := fun _ => by kernel_rfl
theorem iy17 : ∀ W : World, (Instr.index 48 (.agg (cells3 prsT).toArray) (.int .i64 17)).run Tryd.prog W = .ok (.agg #[.int .i32 (prsT.getD 17 (0, 0, 0)).1, .int .i32 (prsT.getD 17 (0, 0, 0)).2.1, .int .i32 (prsT.getD 17 (0, 0, 0)).2.2]) W := fun _ => by kernel_rfl
theorem iy18 : ∀ W : World, (Instr.index 48 (.agg (cells3 prsT).toArray) (.int .i64 18)).run Tryd.prog W = .ok (.agg #[.int .i32 (prsT.getD 18 (0, 0, 0)).1, .int .i32 (prsT.getD 18 (0, 0, 0)).2.1, .int .i32 (prsT.getD 18 (0, 0, 0)).2.2]) W := fun _ => by kernel_rfl
theorem iy19 : ∀ W : World, (Instr.index 48 (.agg (cells3 prsT).toArray) (.int .i64 19)).run Tryd.prog W = .ok (.agg #[.int .i32 (prsT.getD 19 (0, 0, 0)).1, .int .i32 (prsT.getD 19 (0, 0, 0)).2.1, .int .i32 (prsT.getD 19 (0, 0, 0)).2.2]) W := fun _ => by kernel_rfl
theorem iy20 : ∀ W : World, (Instr.index 48 (.agg (cells3 prsT).toArray) (.int .i64 20)).run Tryd.prog W = .ok (.agg #[.int .i32 (prsT.getD 20 (0, 0, 0)).1, .int .i32 (prsT.getD 20 (0, 0, 0)).2.1, .int .i32 (prsT.getD 20 (0, 0, 0)).2.2]) W := fun _ => by kernel_rfl
theorem iy21 : ∀ W : World, (Instr.index 48 (.agg (cells3 prsT).toArray) (.int .i64 21)).run Tryd.prog W = .ok (.agg #[.int .i32 (prsT.getD 21 (0, 0, 0)).1, .int .i32 (prsT.getD 21 (0, 0, 0)).2.1, .int .i32 (prsT.getD 21 (0, 0, 0)).2.2]) W := fun _ => by kernel_rfl
theorem iy22 : ∀ W : World, (Instr.index 48 (.agg (cells3 prsT).toArray) (.int .i64 22)).run Tryd.prog W = .ok (.agg #[.int .i32 (prsT.getD 22 (0, 0, 0)).1, .int .i32 (prsT.getD 22 (0, 0, 0)).2.1, .int .i32 (prsT.getD 22 (0, 0, 0)).2.2]) W := fun _ => by kernel_rfl
theorem iy23 : ∀ W : World, (Instr.index 48 (.agg (cells3 prsT).toArray) (.int .i64 23)).run Tryd.prog W = .ok (.agg #[.int .i32 (prsT.getD 23 (0, 0, 0)).1, .int .i32 (prsT.getD 23 (0, 0, 0)).2.1, .int .i32 (prsT.getD 23 (0, 0, 0)).2.2]) W := fun _ => by kernel_rfl
theorem iy24 : ∀ W : World, (Instr.index 48 (.agg (cells3 prsT).toArray) (.int .i64 24)).run Tryd.prog W = .ok (.agg #[.int .i32 (prsT.getD 24 (0, 0, 0)).1, .int .i32 (prsT.getD 24 (0, 0, 0)).2.1, .int .i32 (prsT.getD 24 (0, 0, 0)).2.2]) W := fun _ => by kernel_rfl
theorem iy25 : ∀ W : World, (Instr.index 48 (.agg (cells3 prsT).toArray) (.int .i64 25)).run Tryd.prog W = .ok (.agg #[.int .i32 (prsT.getD 25 (0, 0, 0)).1, .int .i32 (prsT.getD 25 (0, 0, 0)).2.1, .int .i32 (prsT.getD 25 (0, 0, 0)).2.2]) W := fun _ => by kernel_rfl
theorem iy26 : ∀ W : World, (Instr.index 48 (.agg (cells3 prsT).toArray) (.int .i64 26)).run Tryd.prog W = .ok (.agg #[.int .i32 (prsT.getD 26 (0, 0, 0)).1, .int .i32 (prsT.getD 26 (0, 0, 0)).2.1, .int .i32 (prsT.getD 26 (0, 0, 0)).2.2]) W := fun _ => by kernel_rfl
theorem iy27 : ∀ W : World, (Instr.index 48 (.agg (cells3 prsT).toArray) (.int .i64 27)).run Tryd.prog W = .ok (.agg #[.int .i32 (prsT.getD 27 (0, 0, 0)).1, .int .i32 (prsT.getD 27 (0, 0, 0)).2.1, .int .i32 (prsT.getD 27 (0, 0, 0)).2.2]) W := fun _ => by kernel_rfl
theorem iy28 : ∀ W : World, (Instr.index 48 (.agg (cells3 prsT).toArray) (.int .i64 28)).run Tryd.prog W = .ok (.agg #[.int .i32 (prsT.getD 28 (0, 0, 0)).1, .int .i32 (prsT.getD 28 (0, 0, 0)).2.1, .int .i32 (prsT.getD 28 (0, 0, 0)).2.2]) W := fun _ => by kernel_rfl
theorem iy29 : ∀ W : World, (Instr.index 48 (.agg (cells3 prsT).toArray) (.int .i64 29)).run Tryd.prog W = .ok (.agg #[.int .i32 (prsT.getD 29 (0, 0, 0)).1, .int .i32 (prsT.getD 29 (0, 0, 0)).2.1, .int .i32 (prsT.getD 29 (0, 0, 0)).2.2]) W := fun _ => by kernel_rfl
theorem iy30 : ∀ W : World, (Instr.index 48 (.agg (cells3 prsT).toArray) (.int .i64 30)).run Tryd.prog W = .ok (.agg #[.int .i32 (prsT.getD 30 (0, 0, 0)).1, .int .i32 (prsT.getD 30 (0, 0, 0)).2.1, .int .i32 (prsT.getD 30 (0, 0, 0)).2.2]) W := fun _ => by kernel_rfl
theorem idx48 (i : Nat) (hi : i < 31) : ∀ W : World, (Instr.index 48 (.agg (cells3 prsT).toArray) (.int .i64 (i : Int))).run Tryd.prog W = .ok (.agg #[.int .i32 (prsT.getD i (0, 0, 0)).1, .int .i32 (prsT.getD i (0, 0, 0)).2.1, .int .i32 (prsT.getD i (0, 0, 0)).2.2]) W := by
  intro W
  match i, hi with
  | 0, _ => exact iy0 W
  | 1, _ => exact iy1 W
  | 2, _ => exact iy2 W
  | 3, _ => exact iy3 W
  | 4, _ => exact iy4 W
  | 5, _ => exact iy5 W
  | 6, _ => exact iy6 W
  | 7, _ => exact iy7 W
  | 8, _ => exact iy8 W
  | 9, _ => exact iy9 W
  | 10, _ => exact iy10 W
  | 11, _ => exact iy11 W
  | 12, _ => exact iy12 W
  | 13, _ => exact iy13 W
  | 14, _ => exact iy14 W
  | 15, _ => exact iy15 W
  | 16, _ => exact iy16 W
  | 17, _ => exact iy17 W
  | 18, _ => exact iy18 W
  | 19, _ => exact iy19 W
  | 20, _ => exact iy20 W
  | 21, _ => exact iy21 W
  | 22, _ => exact iy22 W
  | 23, _ => exact iy23 W
  | 24, _ => exact iy24 W
  | 25, _ => exact iy25 W
  | 26, _ => exact iy26 W
  | 27, _ => exact iy27 W
  | 28, _ => exact iy28 W
  | 29, _ => exact iy29 W
  | 30, _ => exact iy30 W
  | n + 31, h => exact absurd h (by omega)
theorem info48 : (Tryd.prog.info? 48).map (·.size) = some (cells3 prsT).length := by kernel_rfl
def PairPost (w : World) (r : Int) (e : Ending) (w' : World) : Prop := e = .returned (.tuple #[.int .i32 (pairU r).1, .int .i32 (pairU r).2.1, .int .i64 (pairU r).2.2]) ∧ Below w.heap.size w w'
set_option maxRecDepth 100000 in
set_option maxHeartbeats 1000000 in
theorem PairSyl (w : World) (s : Nat) (hs : s ≤ 11171) : Calls Tryd.prog 18 #[.int .i32 (44032 + (s : Int))] w (PairPost w (44032 + (s : Int))) := by
  have d1 : decide ((44032 : Int) ≤ 44032 + (s : Int)) = true := decide_eq_true (by omega)
  have d2 : decide (44032 + (s : Int) ≤ 55203) = true := decide_eq_true (by omega)
  have t1 : (s : Int).tmod 28 = ((s % 28 : Nat) : Int) := by rw [Int.tmod_eq_emod_of_nonneg (by omega)]; omega
  have t2 : (s : Int).tmod 588 = ((s % 588 : Nat) : Int) := by rw [Int.tmod_eq_emod_of_nonneg (by omega)]; omega
  have t3 : (s : Int).tdiv 588 = ((s / 588 : Nat) : Int) := by rw [Int.tdiv_eq_ediv_of_nonneg (by omega)]; omega
  have t4 : ((s % 588 : Nat) : Int).tdiv 28 = ((s % 588 / 28 : Nat) : Int) := by rw [Int.tdiv_eq_ediv_of_nonneg (by omega)]; omega
  have e1 : 44032 + (s : Int) - 44032 = (s : Int) := by omega
  have b1 : s / 588 ≤ 18 := by omega
  have b2 : s % 588 / 28 ≤ 20 := by omega
  have b3 : s % 28 ≤ 27 := by omega
  obtain ⟨x1, hx1⟩ : ∃ x, x = s % 28 := ⟨_, rfl⟩
  obtain ⟨x2, hx2⟩ : ∃ x, x = s % 588 := ⟨_, rfl⟩
  obtain ⟨x3, hx3⟩ : ∃ x, x = s / 588 := ⟨_, rfl⟩
  rw [← hx1] at t1 b3
  rw [← hx2] at t2 t4 b2
  rw [← hx3] at t3 b1
  obtain ⟨x4, hx4⟩ : ∃ x, x = x2 / 28 := ⟨_, rfl⟩
  rw [← hx4] at t4 b2
  have hP : pairU (44032 + (s : Int)) = if x1 = 0 then (4352 + (x3 : Int), 4449 + (x4 : Int), 2) else (44032 + (s : Int) - (x1 : Int), 4519 + (x1 : Int), 2) := by
    unfold pairU
    rw [if_pos ⟨by omega, by omega⟩, e1]
    by_cases h : x1 = 0
    · rw [if_pos (by omega), if_pos h]
      congr 1
      · omega
      · congr 1; omega
    · rw [if_neg (by omega), if_neg h]
      congr 1
      · omega
      · congr 1; omega
  have HP := Aside0.mk hP
  clear hP hx1 hx2 hx3 hx4
  by_cases h : x1 = 0
  · subst h
    go_enter Tryd.func18, Tryd.ntmps18
    go_wp2
    go_ret3
    exact ⟨by rw [HP.out]; rfl, Below.refl _ _⟩
  · have h0 : ((x1 : Int) == 0) = false := by simp; omega
    go_enter Tryd.func18, Tryd.ntmps18
    go_wp2
    go_ret3
    exact ⟨by rw [HP.out, if_neg h]; rfl, Below.refl _ _⟩
set_option maxRecDepth 100000 in
set_option maxHeartbeats 1000000 in
theorem PairLat (w : World) (hG : G w) (i : Nat) (hi : i < 64) : Calls Tryd.prog 18 #[.int .i32 (192 + (i : Int))] w (PairPost w (192 + (i : Int))) := by
  have HG := Aside0.mk hG
  clear hG
  have d1 : decide ((44032 : Int) ≤ 192 + (i : Int)) = false := decide_eq_false (by omega)
  have d2 : decide ((256 : Int) ≤ 192 + (i : Int)) = false := decide_eq_false (by omega)
  have d3 : decide (192 + (i : Int) < 192) = false := decide_eq_false (by omega)
  have d4 : decide ((255 : Int) < 192 + (i : Int)) = false := decide_eq_false (by omega)
  have e1 : 192 + (i : Int) - 192 = (i : Int) := by omega
  have hP : pairU (192 + (i : Int)) = ltr latL latM i := by
    unfold pairU
    rw [if_neg (by omega), if_neg (by omega), if_neg (by omega), e1, Int.toNat_natCast]
  have hix := idxS latL i hi
  have hiy := idxS latM i hi
  have hmr := byt_range latM i
  have har := byt_range latL i
  obtain ⟨a, ha⟩ : ∃ a, a = byt latL i := ⟨_, rfl⟩
  obtain ⟨m, hm⟩ : ∃ m, m = byt latM i := ⟨_, rfl⟩
  rw [← ha] at hix har
  rw [← hm] at hiy hmr
  have hwa : IntKind.i32.wrap a = a := by rw [IntKind.wrap_i32]; omega
  unfold latL at hix
  unfold latM at hiy
  by_cases h : a = 46
  · have h0 : (a == 46) = true := by simpa using h
    have HP := Aside0.mk (show pairU (192 + (i : Int)) = (0, 0, 0) by rw [hP]; unfold ltr; rw [if_pos (by rw [← ha]; exact h)])
    clear hP ha h hm
    go_enter Tryd.func18, Tryd.ntmps18
    go_wp2
    go_ret3
    exact ⟨by rw [HP.out]; rfl, Below.refl _ _⟩
  · have h0 : (a == 46) = false := by simpa using h
    have HP := Aside0.mk (show pairU (192 + (i : Int)) = (a, nmd m, 2) by rw [hP]; unfold ltr; rw [if_neg (by rw [← ha]; exact h), ← ha, ← hm])
    clear hP ha h hm
    go_enter Tryd.func18, Tryd.ntmps18
    go_upto_region 21 with (fail)
    refine wp_region_held_drew (S := fun W => Below w.heap.size w W) (by kernel_rfl) (((Drawn0.refl w).step 1).below) (fun hS => ?_)
    refine wpAnyH_take (i := 0) (oi := { dst := some 78, op := _, type := _, pos := _, after := _, guard := _ }) (v := .string latL) rfl (by kernel_rfl) (by kernel_rfl) (by kernel_rfl) (fun _ _ _ h => h) (Or.inl ⟨by rfl, fun W hW => ?_⟩) hS ?_
    · (go_simp)
    try simp only [Act.put, List.setIfInBounds_toArray, List.set_cons_zero, List.set_cons_succ]
    refine wpAnyH_take (i := 1) (oi := { dst := some 79, op := _, type := _, pos := _, after := _, guard := _ }) (v := .int .i32 (i : Int)) rfl (by kernel_rfl) (by kernel_rfl) (by kernel_rfl) (fun _ _ _ h => h) (Or.inl ⟨by rfl, fun W hW => ?_⟩) hS ?_
    · (go_simp)
    try simp only [Act.put, List.setIfInBounds_toArray, List.set_cons_zero, List.set_cons_succ]
    refine wpAnyH_take (i := 2) (oi := { dst := some 80, op := _, type := _, pos := _, after := _, guard := _ }) (v := .int .u8 a) rfl (by kernel_rfl) (by kernel_rfl) (by kernel_rfl) (fun _ _ _ h => h) (Or.inl ⟨by rfl, fun W hW => ?_⟩) hS ?_
    · (have h := hix W; go_simp)
    try simp only [Act.put, List.setIfInBounds_toArray, List.set_cons_zero, List.set_cons_succ]
    refine wpAnyH_take (i := 3) (oi := { dst := some 81, op := _, type := _, pos := _, after := _, guard := _ }) (v := .int .i32 a) rfl (by kernel_rfl) (by kernel_rfl) (by kernel_rfl) (fun _ _ _ h => h) (Or.inl ⟨by rfl, fun W hW => ?_⟩) hS ?_
    · (go_simp)
    try simp only [Act.put, List.setIfInBounds_toArray, List.set_cons_zero, List.set_cons_succ]
    refine wpAnyH_take (i := 4) (oi := { dst := some 82, op := _, type := _, pos := _, after := _, guard := _ }) (v := .string latM) rfl (by kernel_rfl) (by kernel_rfl) (by kernel_rfl) (fun _ _ _ h => h) (Or.inl ⟨by rfl, fun W hW => ?_⟩) hS ?_
    · (go_simp)
    try simp only [Act.put, List.setIfInBounds_toArray, List.set_cons_zero, List.set_cons_succ]
    refine wpAnyH_take (i := 5) (oi := { dst := some 83, op := _, type := _, pos := _, after := _, guard := _ }) (v := .int .i32 (i : Int)) rfl (by kernel_rfl) (by kernel_rfl) (by kernel_rfl) (fun _ _ _ h => h) (Or.inl ⟨by rfl, fun W hW => ?_⟩) hS ?_
    · (go_simp)
    try simp only [Act.put, List.setIfInBounds_toArray, List.set_cons_zero, List.set_cons_succ]
    refine wpAnyH_take (i := 6) (oi := { dst := some 84, op := _, type := _, pos := _, after := _, guard := _ }) (v := .int .u8 m) rfl (by kernel_rfl) (by kernel_rfl) (by kernel_rfl) (fun _ _ _ h => h) (Or.inl ⟨by rfl, fun W hW => ?_⟩) hS ?_
    · (have h := hiy W; go_simp)
    try simp only [Act.put, List.setIfInBounds_toArray, List.set_cons_zero, List.set_cons_succ]
    refine wpAnyH_ready (rs := [7]) (by kernel_rfl) (by simp) ?_
    refine AllReadyH.cons (o := { dst := some 85, op := _, type := _, pos := _, after := _, guard := _ }) rfl (fun K hK => ?_) AllReadyH.nil
    go_simp
    (go_at_call 35)
    refine (NamedP w.drew (HG.out.below hS) m hmr).mono ?_
    rintro e w5 ⟨rfl, p1⟩
    have hS2 := below_then hS hS.size p1
    go_wp2_with fail
    refine hK.out _ _ hS2 (fun hS3 => ?_)
    clear hK K hS p1 hS3
    have hS := hS2
    clear hS2
    try simp only [Act.put, List.setIfInBounds_toArray, List.set_cons_zero, List.set_cons_succ]
    refine wpAnyH_take (i := 8) (oi := { dst := some 2, op := _, type := _, pos := _, after := _, guard := _ }) (v := .int .i32 a) rfl (by kernel_rfl) (by kernel_rfl) (by kernel_rfl) (fun _ _ _ h => h) (Or.inl ⟨by rfl, fun W hW => ?_⟩) hS ?_
    · (go_simp)
    try simp only [Act.put, List.setIfInBounds_toArray, List.set_cons_zero, List.set_cons_succ]
    refine wpAnyH_take (i := 9) (oi := { dst := some 3, op := _, type := _, pos := _, after := _, guard := _ }) (v := .int .i32 (nmd m)) rfl (by kernel_rfl) (by kernel_rfl) (by kernel_rfl) (fun _ _ _ h => h) (Or.inl ⟨by rfl, fun W hW => ?_⟩) hS ?_
    · (go_simp)
    try simp only [Act.put, List.setIfInBounds_toArray, List.set_cons_zero, List.set_cons_succ]
    refine wpAnyH_take (i := 10) (oi := { dst := some 4, op := _, type := _, pos := _, after := _, guard := _ }) (v := .int .i64 2) rfl (by kernel_rfl) (by kernel_rfl) (by kernel_rfl) (fun _ _ _ h => h) (Or.inl ⟨by rfl, fun W hW => ?_⟩) hS ?_
    · (go_simp)
    try simp only [Act.put, List.setIfInBounds_toArray, List.set_cons_zero, List.set_cons_succ]
    refine wpAnyH_done (by kernel_rfl) ?_ _
    go_wp2
    go_ret3
    exact ⟨by rw [HP.out]; rfl, hS⟩
set_option maxRecDepth 100000 in
set_option maxHeartbeats 1000000 in
theorem PairMor (w : World) (hG : G w) (i : Nat) (hi : i < 128) : Calls Tryd.prog 18 #[.int .i32 (256 + (i : Int))] w (PairPost w (256 + (i : Int))) := by
  have HG := Aside0.mk hG
  clear hG
  have d1 : decide ((44032 : Int) ≤ 256 + (i : Int)) = false := decide_eq_false (by omega)
  have d2 : decide ((256 : Int) ≤ 256 + (i : Int)) = true := decide_eq_true (by omega)
  have d3 : decide (256 + (i : Int) < 384) = true := decide_eq_true (by omega)
  have e1 : 256 + (i : Int) - 256 = (i : Int) := by omega
  have hP : pairU (256 + (i : Int)) = ltr morL morM i := by
    unfold pairU
    rw [if_neg (by omega), if_pos (by omega), e1, Int.toNat_natCast]
  have hix := idxS morL i hi
  have hiy := idxS morM i hi
  have hmr := byt_range morM i
  have har := byt_range morL i
  obtain ⟨a, ha⟩ : ∃ a, a = byt morL i := ⟨_, rfl⟩
  obtain ⟨m, hm⟩ : ∃ m, m = byt morM i := ⟨_, rfl⟩
  rw [← ha] at hix har
  rw [← hm] at hiy hmr
  have hwa : IntKind.i32.wrap a = a := by rw [IntKind.wrap_i32]; omega
  unfold morL at hix
  unfold morM at hiy
  by_cases h : a = 46
  · have h0 : (a == 46) = true := by simpa using h
    have HP := Aside0.mk (show pairU (256 + (i : Int)) = (0, 0, 0) by rw [hP]; unfold ltr; rw [if_pos (by rw [← ha]; exact h)])
    clear hP ha h hm
    go_enter Tryd.func18, Tryd.ntmps18
    go_wp2
    go_ret3
    exact ⟨by rw [HP.out]; rfl, Below.refl _ _⟩
  · have h0 : (a == 46) = false := by simpa using h
    have HP := Aside0.mk (show pairU (256 + (i : Int)) = (a, nmd m, 2) by rw [hP]; unfold ltr; rw [if_neg (by rw [← ha]; exact h), ← ha, ← hm])
    clear hP ha h hm
    go_enter Tryd.func18, Tryd.ntmps18
    go_upto_region 21 with (fail)
    refine wp_region_held_drew (S := fun W => Below w.heap.size w W) (by kernel_rfl) (((Drawn0.refl w).step 1).below) (fun hS => ?_)
    refine wpAnyH_take (i := 0) (oi := { dst := some 78, op := _, type := _, pos := _, after := _, guard := _ }) (v := .string morL) rfl (by kernel_rfl) (by kernel_rfl) (by kernel_rfl) (fun _ _ _ h => h) (Or.inl ⟨by rfl, fun W hW => ?_⟩) hS ?_
    · (go_simp)
    try simp only [Act.put, List.setIfInBounds_toArray, List.set_cons_zero, List.set_cons_succ]
    refine wpAnyH_take (i := 1) (oi := { dst := some 79, op := _, type := _, pos := _, after := _, guard := _ }) (v := .int .i32 (i : Int)) rfl (by kernel_rfl) (by kernel_rfl) (by kernel_rfl) (fun _ _ _ h => h) (Or.inl ⟨by rfl, fun W hW => ?_⟩) hS ?_
    · (go_simp)
    try simp only [Act.put, List.setIfInBounds_toArray, List.set_cons_zero, List.set_cons_succ]
    refine wpAnyH_take (i := 2) (oi := { dst := some 80, op := _, type := _, pos := _, after := _, guard := _ }) (v := .int .u8 a) rfl (by kernel_rfl) (by kernel_rfl) (by kernel_rfl) (fun _ _ _ h => h) (Or.inl ⟨by rfl, fun W hW => ?_⟩) hS ?_
    · (have h := hix W; go_simp)
    try simp only [Act.put, List.setIfInBounds_toArray, List.set_cons_zero, List.set_cons_succ]
    refine wpAnyH_take (i := 3) (oi := { dst := some 81, op := _, type := _, pos := _, after := _, guard := _ }) (v := .int .i32 a) rfl (by kernel_rfl) (by kernel_rfl) (by kernel_rfl) (fun _ _ _ h => h) (Or.inl ⟨by rfl, fun W hW => ?_⟩) hS ?_
    · (go_simp)
    try simp only [Act.put, List.setIfInBounds_toArray, List.set_cons_zero, List.set_cons_succ]
    refine wpAnyH_take (i := 4) (oi := { dst := some 82, op := _, type := _, pos := _, after := _, guard := _ }) (v := .string morM) rfl (by kernel_rfl) (by kernel_rfl) (by kernel_rfl) (fun _ _ _ h => h) (Or.inl ⟨by rfl, fun W hW => ?_⟩) hS ?_
    · (go_simp)
    try simp only [Act.put, List.setIfInBounds_toArray, List.set_cons_zero, List.set_cons_succ]
    refine wpAnyH_take (i := 5) (oi := { dst := some 83, op := _, type := _, pos := _, after := _, guard := _ }) (v := .int .i32 (i : Int)) rfl (by kernel_rfl) (by kernel_rfl) (by kernel_rfl) (fun _ _ _ h => h) (Or.inl ⟨by rfl, fun W hW => ?_⟩) hS ?_
    · (go_simp)
    try simp only [Act.put, List.setIfInBounds_toArray, List.set_cons_zero, List.set_cons_succ]
    refine wpAnyH_take (i := 6) (oi := { dst := some 84, op := _, type := _, pos := _, after := _, guard := _ }) (v := .int .u8 m) rfl (by kernel_rfl) (by kernel_rfl) (by kernel_rfl) (fun _ _ _ h => h) (Or.inl ⟨by rfl, fun W hW => ?_⟩) hS ?_
    · (have h := hiy W; go_simp)
    try simp only [Act.put, List.setIfInBounds_toArray, List.set_cons_zero, List.set_cons_succ]
    refine wpAnyH_ready (rs := [7]) (by kernel_rfl) (by simp) ?_
    refine AllReadyH.cons (o := { dst := some 85, op := _, type := _, pos := _, after := _, guard := _ }) rfl (fun K hK => ?_) AllReadyH.nil
    go_simp
    (go_at_call 35)
    refine (NamedP w.drew (HG.out.below hS) m hmr).mono ?_
    rintro e w5 ⟨rfl, p1⟩
    have hS2 := below_then hS hS.size p1
    go_wp2_with fail
    refine hK.out _ _ hS2 (fun hS3 => ?_)
    clear hK K hS p1 hS3
    have hS := hS2
    clear hS2
    try simp only [Act.put, List.setIfInBounds_toArray, List.set_cons_zero, List.set_cons_succ]
    refine wpAnyH_take (i := 8) (oi := { dst := some 2, op := _, type := _, pos := _, after := _, guard := _ }) (v := .int .i32 a) rfl (by kernel_rfl) (by kernel_rfl) (by kernel_rfl) (fun _ _ _ h => h) (Or.inl ⟨by rfl, fun W hW => ?_⟩) hS ?_
    · (go_simp)
    try simp only [Act.put, List.setIfInBounds_toArray, List.set_cons_zero, List.set_cons_succ]
    refine wpAnyH_take (i := 9) (oi := { dst := some 3, op := _, type := _, pos := _, after := _, guard := _ }) (v := .int .i32 (nmd m)) rfl (by kernel_rfl) (by kernel_rfl) (by kernel_rfl) (fun _ _ _ h => h) (Or.inl ⟨by rfl, fun W hW => ?_⟩) hS ?_
    · (go_simp)
    try simp only [Act.put, List.setIfInBounds_toArray, List.set_cons_zero, List.set_cons_succ]
    refine wpAnyH_take (i := 10) (oi := { dst := some 4, op := _, type := _, pos := _, after := _, guard := _ }) (v := .int .i64 2) rfl (by kernel_rfl) (by kernel_rfl) (by kernel_rfl) (fun _ _ _ h => h) (Or.inl ⟨by rfl, fun W hW => ?_⟩) hS ?_
    · (go_simp)
    try simp only [Act.put, List.setIfInBounds_toArray, List.set_cons_zero, List.set_cons_succ]
    refine wpAnyH_done (by kernel_rfl) ?_ _
    go_wp2
    go_ret3
    exact ⟨by rw [HP.out]; rfl, hS⟩
set_option maxRecDepth 100000 in
set_option maxHeartbeats 1000000 in
theorem PairTab (w : World) (hG : G w) (r : Int) (hr5 : -2147483648 ≤ r ∧ r ≤ 2147483647) (h1 : ¬ (44032 ≤ r ∧ r ≤ 55203)) (h2 : ¬ (256 ≤ r ∧ r < 384)) (h3 : r < 192 ∨ 255 < r) : Calls Tryd.prog 18 #[.int .i32 r] w (PairPost w r) := by
  have hP : pairU r = prsF r prsT := by unfold pairU; rw [if_neg h1, if_neg h2, if_pos h3]
  obtain ⟨tl, htl⟩ : ∃ tl, tl = cells3 prsT := ⟨_, rfl⟩
  have HT := Aside0.mk (show w.rangeAt 1 0 tl by rw [htl]; exact hG.2.1)
  have HI := Aside0.mk (show (Tryd.prog.info? 48).map (·.size) = some tl.length by rw [htl]; exact info48)
  have HX := Aside0.mk (show ∀ i : Nat, i < 31 → ∀ W : World, (Instr.index 48 (.agg tl.toArray) (.int .i64 (i : Int))).run Tryd.prog W = .ok (.agg #[.int .i32 (prsT.getD i (0, 0, 0)).1, .int .i32 (prsT.getD i (0, 0, 0)).2.1, .int .i32 (prsT.getD i (0, 0, 0)).2.2]) W by rw [htl]; exact idx48)
  have HP := Aside0.mk hP
  clear hG htl hP
  have hu43 := Tryd.underlying43
  have hcase : r < 192 ∨ (384 ≤ r ∧ r < 44032) ∨ 55203 < r := by omega
  clear h1 h2 h3
  rcases hcase with h1 | ⟨h1, h2⟩ | h1
  · have d1 : decide (44032 ≤ r) = false := decide_eq_false (by omega)
    have d2 : decide (256 ≤ r) = false := decide_eq_false (by omega)
    have d3 : decide (r < 192) = true := decide_eq_true (by omega)
    go_enter Tryd.func18, Tryd.ntmps18
    go_wp2_with (refine wpList_load_mid rfl 48 (.global 1) rfl 1 0 rfl tl _ HT.out Tryd.underlying48 rfl HI.out ?_)
    go_loopw [57] (fun iv wr => ∃ i : Nat, i ≤ 31 ∧ iv = .int .i64 i ∧ Aside0 (pairU r = prsF r (prsT.drop i)) ∧ Aside0 (Below w.heap.size w wr)) (fun iv _ => 31 - (intOf iv).toNat)
    case atStart => exact ⟨0, Nat.zero_le _, rfl, ⟨HP.out⟩, ⟨Below.refl _ _⟩⟩
    case round =>
      obtain ⟨i, hi, rfl, HE, HB⟩ := hrel
      by_cases hlt : i < 31
      · have hd : decide ((i : Int) < 31) = true := decide_eq_true (by omega)
        have hix := HX.out i hlt
        have he := HE.out
        have hdr : prsT.drop i = prsT.getD i (0, 0, 0) :: prsT.drop (i + 1) := by
          have h1 : i < prsT.length := hlt
          rw [List.drop_eq_getElem_cons h1, List.getD_eq_getElem?_getD, List.getElem?_eq_getElem h1]
          rfl
        rw [hdr, prsF] at he
        obtain ⟨⟨a, b, c⟩, hp⟩ : ∃ p, p = prsT.getD i (0, 0, 0) := ⟨_, rfl⟩
        rw [← hp] at hix he
        simp only at hix he
        clear hp hdr
        have NB := Aside0.mk (show Below w.heap.size w (wr.alloc (.cells #[.int .i32 a, .int .i32 b, .int .i32 c] 43)) from below_then HB.out HB.out.size (below_alloc (Below.refl _ _) _))
        by_cases ha : a = r
        · have ha1 : (a == r) = true := by simpa using ha
          rw [if_pos ha] at he
          by_cases hc : c = 0
          · have hc1 : (c == 0) = true := by simpa using hc
            rw [if_pos hc] at he
            have HE1 := Aside0.mk he
            clear he ha hc
            go_wp2
            go_ret3
            exact ⟨by rw [HE1.out]; rfl, NB.out⟩
          · have hc1 : (c == 0) = false := by simpa using hc
            rw [if_neg hc] at he
            have HE1 := Aside0.mk he
            clear he ha hc
            go_wp2
            go_quiet (fail)
            go_wp2
            go_ret3
            exact ⟨by rw [HE1.out]; rfl, below_then NB.out NB.out.size ((Drawn0.refl _).step nq).below⟩
        · have ha1 : (a == r) = false := by simpa using ha
          rw [if_neg ha] at he
          have HE1 := Aside0.mk he
          clear he ha
          go_wp2
          go_roundw
          case rel => exact ⟨i + 1, by omega, by go_num, HE1, NB⟩
          case measure => simp [intOf]; omega
      · have hd : decide ((i : Int) < 31) = false := decide_eq_false (by omega)
        obtain rfl : i = 31 := by omega
        have HE1 := Aside0.mk (show pairU r = (0, 0, 0) from HE.out)
        go_wp2
        go_ret3
        exact ⟨by rw [HE1.out]; rfl, HB.out⟩
  · have d1 : decide (44032 ≤ r) = false := decide_eq_false (by omega)
    have d2 : decide (256 ≤ r) = true := decide_eq_true (by omega)
    have d3 : decide (r < 384) = false := decide_eq_false (by omega)
    have d4 : decide (r < 192) = false := decide_eq_false (by omega)
    have d5 : decide (255 < r) = true := decide_eq_true (by omega)
    go_enter Tryd.func18, Tryd.ntmps18
    go_wp2_with (refine wpList_load_mid rfl 48 (.global 1) rfl 1 0 rfl tl _ HT.out Tryd.underlying48 rfl HI.out ?_)
    go_loopw [57] (fun iv wr => ∃ i : Nat, i ≤ 31 ∧ iv = .int .i64 i ∧ Aside0 (pairU r = prsF r (prsT.drop i)) ∧ Aside0 (Below w.heap.size w wr)) (fun iv _ => 31 - (intOf iv).toNat)
    case atStart => exact ⟨0, Nat.zero_le _, rfl, ⟨HP.out⟩, ⟨Below.refl _ _⟩⟩
    case round =>
      obtain ⟨i, hi, rfl, HE, HB⟩ := hrel
      by_cases hlt : i < 31
      · have hd : decide ((i : Int) < 31) = true := decide_eq_true (by omega)
        have hix := HX.out i hlt
        have he := HE.out
        have hdr : prsT.drop i = prsT.getD i (0, 0, 0) :: prsT.drop (i + 1) := by
          have h1 : i < prsT.length := hlt
          rw [List.drop_eq_getElem_cons h1, List.getD_eq_getElem?_getD, List.getElem?_eq_getElem h1]
          rfl
        rw [hdr, prsF] at he
        obtain ⟨⟨a, b, c⟩, hp⟩ : ∃ p, p = prsT.getD i (0, 0, 0) := ⟨_, rfl⟩
        rw [← hp] at hix he
        simp only at hix he
        clear hp hdr
        have NB := Aside0.mk (show Below w.heap.size w (wr.alloc (.cells #[.int .i32 a, .int .i32 b, .int .i32 c] 43)) from below_then HB.out HB.out.size (below_alloc (Below.refl _ _) _))
        by_cases ha : a = r
        · have ha1 : (a == r) = true := by simpa using ha
          rw [if_pos ha] at he
          by_cases hc : c = 0
          · have hc1 : (c == 0) = true := by simpa using hc
            rw [if_pos hc] at he
            have HE1 := Aside0.mk he
            clear he ha hc
            go_wp2
            go_ret3
            exact ⟨by rw [HE1.out]; rfl, NB.out⟩
          · have hc1 : (c == 0) = false := by simpa using hc
            rw [if_neg hc] at he
            have HE1 := Aside0.mk he
            clear he ha hc
            go_wp2
            go_quiet (fail)
            go_wp2
            go_ret3
            exact ⟨by rw [HE1.out]; rfl, below_then NB.out NB.out.size ((Drawn0.refl _).step nq).below⟩
        · have ha1 : (a == r) = false := by simpa using ha
          rw [if_neg ha] at he
          have HE1 := Aside0.mk he
          clear he ha
          go_wp2
          go_roundw
          case rel => exact ⟨i + 1, by omega, by go_num, HE1, NB⟩
          case measure => simp [intOf]; omega
      · have hd : decide ((i : Int) < 31) = false := decide_eq_false (by omega)
        obtain rfl : i = 31 := by omega
        have HE1 := Aside0.mk (show pairU r = (0, 0, 0) from HE.out)
        go_wp2
        go_ret3
        exact ⟨by rw [HE1.out]; rfl, HB.out⟩
  · have d1 : decide (44032 ≤ r) = true := decide_eq_true (by omega)
    have d0 : decide (r ≤ 55203) = false := decide_eq_false (by omega)
    have d2 : decide (256 ≤ r) = true := decide_eq_true (by omega)
    have d3 : decide (r < 384) = false := decide_eq_false (by omega)
    have d4 : decide (r < 192) = false := decide_eq_false (by omega)
    have d5 : decide (255 < r) = true := decide_eq_true (by omega)
    go_enter Tryd.func18, Tryd.ntmps18
    go_wp2_with (refine wpList_load_mid rfl 48 (.global 1) rfl 1 0 rfl tl _ HT.out Tryd.underlying48 rfl HI.out ?_)
    go_loopw [57] (fun iv wr => ∃ i : Nat, i ≤ 31 ∧ iv = .int .i64 i ∧ Aside0 (pairU r = prsF r (prsT.drop i)) ∧ Aside0 (Below w.heap.size w wr)) (fun iv _ => 31 - (intOf iv).toNat)
    case atStart => exact ⟨0, Nat.zero_le _, rfl, ⟨HP.out⟩, ⟨Below.refl _ _⟩⟩
    case round =>
      obtain ⟨i, hi, rfl, HE, HB⟩ := hrel
      by_cases hlt : i < 31
      · have hd : decide ((i : Int) < 31) = true := decide_eq_true (by omega)
        have hix := HX.out i hlt
        have he := HE.out
        have hdr : prsT.drop i = prsT.getD i (0, 0, 0) :: prsT.drop (i + 1) := by
          have h1 : i < prsT.length := hlt
          rw [List.drop_eq_getElem_cons h1, List.getD_eq_getElem?_getD, List.getElem?_eq_getElem h1]
          rfl
        rw [hdr, prsF] at he
        obtain ⟨⟨a, b, c⟩, hp⟩ : ∃ p, p = prsT.getD i (0, 0, 0) := ⟨_, rfl⟩
        rw [← hp] at hix he
        simp only at hix he
        clear hp hdr
        have NB := Aside0.mk (show Below w.heap.size w (wr.alloc (.cells #[.int .i32 a, .int .i32 b, .int .i32 c] 43)) from below_then HB.out HB.out.size (below_alloc (Below.refl _ _) _))
        by_cases ha : a = r
        · have ha1 : (a == r) = true := by simpa using ha
          rw [if_pos ha] at he
          by_cases hc : c = 0
          · have hc1 : (c == 0) = true := by simpa using hc
            rw [if_pos hc] at he
            have HE1 := Aside0.mk he
            clear he ha hc
            go_wp2
            go_ret3
            exact ⟨by rw [HE1.out]; rfl, NB.out⟩
          · have hc1 : (c == 0) = false := by simpa using hc
            rw [if_neg hc] at he
            have HE1 := Aside0.mk he
            clear he ha hc
            go_wp2
            go_quiet (fail)
            go_wp2
            go_ret3
            exact ⟨by rw [HE1.out]; rfl, below_then NB.out NB.out.size ((Drawn0.refl _).step nq).below⟩
        · have ha1 : (a == r) = false := by simpa using ha
          rw [if_neg ha] at he
          have HE1 := Aside0.mk he
          clear he ha
          go_wp2
          go_roundw
          case rel => exact ⟨i + 1, by omega, by go_num, HE1, NB⟩
          case measure => simp [intOf]; omega
      · have hd : decide ((i : Int) < 31) = false := decide_eq_false (by omega)
        obtain rfl : i = 31 := by omega
        have HE1 := Aside0.mk (show pairU r = (0, 0, 0) from HE.out)
        go_wp2
        go_ret3
        exact ⟨by rw [HE1.out]; rfl, HB.out⟩
theorem PairP (w : World) (hG : G w) (r : Int) (hr : -2147483648 ≤ r ∧ r ≤ 2147483647) : Calls Tryd.prog 18 #[.int .i32 r] w (PairPost w r) := by
  by_cases h1 : 44032 ≤ r ∧ r ≤ 55203
  · have := PairSyl w (r - 44032).toNat (by omega)
    rw [show 44032 + ((r - 44032).toNat : Int) = r by omega] at this
    exact this
  · by_cases h2 : 256 ≤ r ∧ r < 384
    · have := PairMor w hG (r - 256).toNat (by omega)
      rw [show 256 + ((r - 256).toNat : Int) = r by omega] at this
      exact this
    · by_cases h3 : r < 192 ∨ 255 < r
      · exact PairTab w hG r hr h1 h2 h3
      · have := PairLat w hG (r - 192).toNat (by omega)
        rw [show 192 + ((r - 192).toNat : Int) = r by omega] at this
        exact this
end Go.Proofs.YtfiihlgigeijcaaDoor.Vc
namespace Go.Proofs.YtfiihlgigeijcaaDoor.X
open Go.RowKit Go.Proofs.YtfiihlgigeijcaaDoorW.PrintWords
def ucd_Pair.f (a0 : Int) : Option (Int × Int × Int) := if -2147483648 ≤ a0 ∧ a0 ≤ 2147483647 then some (Vc.pairU a0) else none
theorem ucd_Pair.calls (a0 : Int) (r1 r2 r3 : Int) (w : World) (h : ucd_Pair.f a0 = some (r1, r2, r3)) (hG0 : Va.G w) : Calls Tryd.prog 18 #[.int .i32 a0] w fun e w' => e = .returned (.tuple #[.int .i32 r1, .int .i32 r2, .int .i64 r3]) ∧ Below w.heap.size w w' := by
  unfold ucd_Pair.f at h
  split at h
  · rename_i hr
    have e := Option.some.inj h
    have := Vc.PairP w hG0 a0 hr
    unfold Vc.PairPost at this
    rw [e] at this
    exact this
  · cases h
end Go.Proofs.YtfiihlgigeijcaaDoor.X
