/-
  Several texts of this claim in one: what its law's proof uses.
-/
import Derived.Test.YthffpkdadffinaaDoorMWJ2
import Derived.Laws.RangeString
import Derived.Deep.RegionHeld3
import Derived.Test.YthffpkdadffinaaDoorMWJ1
import Derived.Test.YthffpkdadffinaaDoorMWJ3
import Derived.WalkSpells
import Derived.WalkLawsBesides
import Derived.Test.YthffpkdadffinaaDoorMWJ0
namespace Go.Proofs.YthffpkdadffinaaDoor.Vc
set_option linter.unusedVariables false
set_option linter.unusedSimpArgs false
open Go.RowKit YthffpkdadffinaaDoorW.PrintWords Hp Va
abbrev nmS : ByteArray := ⟨#[103, 97, 99, 116, 109, 98, 112, 100, 114, 113, 118, 101, 111]⟩
def nmL : List Int := [103, 97, 99, 116, 109, 98, 112, 100, 114, 113, 118, 101, 111]
def nmF (c : Int) : List Int → List Int → Int
  | a :: l, m :: t => if a = c then m else nmF c l t
  | _, _ => 0
def nmd (c : Int) : Int := nmF c nmL mksT
theorem nm_ascii : ∀ p : Fin 13, (nmS[p.1]'(p.2)).toNat < 128 ∧ (((nmS[p.1]'(p.2)).toNat : Nat) : Int) = nmL.getD p.1 0 := by decide
theorem nm_next (w : World) (pos : Nat) (h : pos < 13) (ty : TypeId) : (Instr.next (.pointer (some ⟨w.heap.size, 0, none⟩)) true ty).run Tryd.prog (w.iter nmS pos) = .ok (.tuple #[.bool true, .int .i64 pos, .int .i32 (nmL.getD pos 0)]) (w.iter nmS (pos + 1)) := by
  have h1 := nm_ascii ⟨pos, h⟩; have := run_next_ascii (P := Tryd.prog) w nmS pos ty h h1.1; rw [h1.2] at this; exact this
theorem iter_below (w : World) (pos : Nat) : Below w.heap.size w (w.iter nmS pos) := below_alloc (Below.refl _ _) _
theorem iter_pos (w : World) (pos : Nat) : (w.iter nmS pos).iterPos w.heap.size = pos := by simp [World.iterPos, World.iter_heap]
set_option maxRecDepth 100000 in
set_option maxHeartbeats 1000000 in
theorem NamedP (w : World) (hG : G w) (c : Int) (hc : 0 ≤ c ∧ c < 256) : Calls Tryd.prog 83 #[.int .u8 c] w fun e w' => e = .returned (.int .i32 (nmd c)) ∧ Below w.heap.size w w' := by
  have HG := Aside0.mk hG; clear hG; (have hcv : wrap32 c = c := by unfold wrap32; omega); go_enter Tryd.func83, Tryd.ntmps83; go_wp2; go_loopw [6] (fun _ wr => ∃ pos : Nat, pos ≤ 13 ∧ wr = w.iter nmS pos ∧ Aside0 (nmd c = nmF c (nmL.drop pos) (mksT.drop pos))) (fun _ wr => 13 - wr.iterPos w.heap.size)
  case atStart => exact ⟨0, Nat.zero_le _, rfl, ⟨rfl⟩⟩
  case round =>
    obtain ⟨pos, hp, rfl, HE⟩ := hrel; by_cases hlt : pos < 13
    · have hnx := nm_next w pos hlt
      have hcell0 : w.cell? ⟨2, 0 + pos, none⟩ = some (.int .i32 (mksT.getD pos 0)) := HG.out.2.2 pos _ (by
        have : pos < mksT.length := hlt
        simp [nums, List.getElem?_eq_getElem this])
      have hcell := ((iter_below w (pos + 1)).cell (World.block_lt_of_cell? w _ hcell0)).trans hcell0; rw [Nat.zero_add] at hcell; have he := HE.out
      have hd1 : nmL.drop pos = nmL.getD pos 0 :: nmL.drop (pos + 1) := by
        have h1 : pos < nmL.length := hlt; rw [List.drop_eq_getElem_cons h1]; simp [List.getElem?_eq_getElem h1]
      have hd2 : mksT.drop pos = mksT.getD pos 0 :: mksT.drop (pos + 1) := by
        have h1 : pos < mksT.length := hlt; rw [List.drop_eq_getElem_cons h1]; simp [List.getElem?_eq_getElem h1]
      rw [hd1, hd2, nmF] at he; obtain ⟨a, ha⟩ : ∃ a, a = nmL.getD pos 0 := ⟨_, rfl⟩; obtain ⟨m, hm⟩ : ∃ m, m = mksT.getD pos 0 := ⟨_, rfl⟩; rw [← ha] at hnx he; rw [← hm] at hcell he; have NB := Aside0.mk (iter_below w (pos + 1)); have MU := Aside0.mk (iter_pos w pos); have MU1 := Aside0.mk (iter_pos w (pos + 1)); clear hcell0 hd1 hd2 ha hm; by_cases hac : a = c
      · rw [if_pos hac] at he; (have hac2 : (a == c) = true := by simpa using hac); have HE1 := Aside0.mk he; clear he hac; go_wp2; go_ret; exact ⟨by rw [HE1.out]; rfl, NB.out⟩
      · rw [if_neg hac] at he; (have hac2 : (a == c) = false := by simpa using hac); have HE1 := Aside0.mk he; clear he hac; go_wp2; go_roundw
        case rel => exact ⟨pos + 1, by omega, rfl, HE1⟩
        case measure => rw [MU.out, MU1.out]; omega
    · (obtain rfl : pos = 13 := by omega); (have hnx := fun ty => run_next_end (P := Tryd.prog) w nmS 13 ty (by decide)); have HE1 := Aside0.mk (show nmd c = 0 from HE.out); have NB := Aside0.mk (iter_below w 13); go_wp2; go_ret; exact ⟨by rw [HE1.out]; rfl, NB.out⟩
abbrev latL : ByteArray := ⟨#[65, 65, 65, 65, 65, 65, 46, 67, 69, 69, 69, 69, 73, 73, 73, 73, 46, 78, 79, 79, 79, 79, 79, 46, 46, 85, 85, 85, 85, 89, 46, 46, 97, 97, 97, 97, 97, 97, 46, 99, 101, 101, 101, 101, 105, 105, 105, 105, 46, 110, 111, 111, 111, 111, 111, 46, 46, 117, 117, 117, 117, 121, 46, 121]⟩
abbrev latM : ByteArray := ⟨#[103, 97, 99, 116, 100, 114, 46, 101, 103, 97, 99, 100, 103, 97, 99, 100, 46, 116, 103, 97, 99, 116, 100, 46, 46, 103, 97, 99, 100, 97, 46, 46, 103, 97, 99, 116, 100, 114, 46, 101, 103, 97, 99, 100, 103, 97, 99, 100, 46, 116, 103, 97, 99, 116, 100, 46, 46, 103, 97, 99, 100, 97, 46, 100]⟩
abbrev morL : ByteArray := ⟨#[65, 97, 65, 97, 65, 97, 67, 99, 67, 99, 67, 99, 67, 99, 68, 100, 46, 46, 69, 101, 69, 101, 69, 101, 69, 101, 69, 101, 71, 103, 71, 103, 71, 103, 71, 103, 72, 104, 46, 46, 73, 105, 73, 105, 73, 105, 73, 105, 73, 46, 46, 46, 74, 106, 75, 107, 46, 76, 108, 76, 108, 76, 108, 46, 46, 46, 46, 78, 110, 78, 110, 78, 110, 46, 46, 46, 79, 111, 79, 111, 79, 111, 46, 46, 82, 114, 82, 114, 82, 114, 83, 115, 83, 115, 83, 115, 83, 115, 84, 116, 84, 116, 46, 46, 85, 117, 85, 117, 85, 117, 85, 117, 85, 117, 85, 117, 87, 119, 89, 121, 89, 90, 122, 90, 122, 90, 122, 46]⟩
abbrev morM : ByteArray := ⟨#[109, 109, 98, 98, 111, 111, 97, 97, 99, 99, 112, 112, 118, 118, 118, 118, 46, 46, 109, 109, 98, 98, 112, 112, 111, 111, 118, 118, 99, 99, 98, 98, 112, 112, 101, 101, 99, 99, 46, 46, 116, 116, 109, 109, 98, 98, 111, 111, 112, 46, 46, 46, 99, 99, 101, 101, 46, 97, 97, 101, 101, 118, 118, 46, 46, 46, 46, 97, 97, 101, 101, 118, 118, 46, 46, 46, 109, 109, 98, 98, 113, 113, 46, 46, 97, 97, 101, 101, 118, 118, 97, 97, 99, 99, 101, 101, 118, 118, 101, 101, 118, 118, 46, 46, 116, 116, 109, 109, 98, 98, 114, 114, 113, 113, 111, 111, 99, 99, 99, 99, 100, 97, 97, 112, 112, 118, 118, 46]⟩
def byt (s : ByteArray) (i : Nat) : Int := ((s.data.toList.getD i 0).toNat : Int)
theorem byt_range (s : ByteArray) (i : Nat) : 0 ≤ byt s i ∧ byt s i < 256 := by
  unfold byt; have := UInt8.toNat_lt (s.data.toList.getD i 0); omega
def prsF (r : Int) : List (Int × Int × Int) → Int × Int × Int
  | [] => (0, 0, 0)
  | p :: t => if p.1 = r then (if p.2.2 = 0 then (p.2.1, 0, 1) else (p.2.1, p.2.2, 2)) else prsF r t
def ltr (L M : ByteArray) (i : Nat) : Int × Int × Int := if byt L i = 46 then (0, 0, 0) else (byt L i, nmd (byt M i), 2)
def pairU (r : Int) : Int × Int × Int :=
  if 44032 ≤ r ∧ r ≤ 55203 then (if (r - 44032) % 28 = 0 then (4352 + (r - 44032) / 588, 4449 + (r - 44032) % 588 / 28, 2) else (r - (r - 44032) % 28, 4519 + (r - 44032) % 28, 2))
  else if 256 ≤ r ∧ r < 384 then ltr morL morM (r - 256).toNat
  else if r < 192 ∨ 255 < r then prsF r prsT
  else ltr latL latM (r - 192).toNat
theorem idxS (s : ByteArray) (i : Nat) (h : i < s.size) (W : World) : (Instr.index 9 (.string s) (.int .i32 (i : Int))).run Tryd.prog W = .ok (.int .u8 (byt s i)) W := by
  rw [run_index_string W 9 s .i32 (i : Int) Tryd.underlying9, dif_pos ⟨by omega, by omega⟩]; congr 2; unfold byt; (have h1 : i < s.data.toList.length := by simpa using h); simp only [Int.toNat_natCast, List.getD_eq_getElem?_getD, List.getElem?_eq_getElem h1, Option.getD_some]
  rfl
theorem iy0 : ∀ W : World, (Instr.index 111 (.agg (cells3 prsT).toArray) (.int .i64 0)).run Tryd.prog W = .ok (.agg #[.int .i32 (prsT.getD 0 (0, 0, 0)).1, .int .i32 (prsT.getD 0 (0, 0, 0)).2.1, .int .i32 (prsT.getD 0 (0, 0, 0)).2.2]) W := fun _ => by kernel_rfl
theorem iy1 : ∀ W : World, (Instr.index 111 (.agg (cells3 prsT).toArray) (.int .i64 1)).run Tryd.prog W = .ok (.agg #[.int .i32 (prsT.getD 1 (0, 0, 0)).1, .int .i32 (prsT.getD 1 (0, 0, 0)).2.1, .int .i32 (prsT.getD 1 (0, 0, 0)).2.2]) W := fun _ => by kernel_rfl
theorem iy2 : ∀ W : World, (Instr.index 111 (.agg (cells3 prsT).toArray) (.int .i64 2)).run Tryd.prog W = .ok (.agg #[.int .i32 (prsT.getD 2 (0, 0, 0)).1, .int .i32 (prsT.getD 2 (0, 0, 0)).2.1, .int .i32 (prsT.getD 2 (0, 0, 0)).2.2]) W := fun _ => by kernel_rfl
theorem iy3 : ∀ W : World, (Instr.index 111 (.agg (cells3 prsT).toArray) (.int .i64 3)).run Tryd.prog W = .ok (.agg #[.int .i32 (prsT.getD 3 (0, 0, 0)).1, .int .i32 (prsT.getD 3 (0, 0, 0)).2.1, .int .i32 (prsT.getD 3 (0, 0, 0)).2.2]) W := fun _ => by kernel_rfl
theorem iy4 : ∀ W : World, (Instr.index 111 (.agg (cells3 prsT).toArray) (.int .i64 4)).run Tryd.prog W = .ok (.agg #[.int .i32 (prsT.getD 4 (0, 0, 0)).1, .int .i32 (prsT.getD 4 (0, 0, 0)).2.1, .int .i32 (prsT.getD 4 (0, 0, 0)).2.2]) W := fun _ => by kernel_rfl
theorem iy5 : ∀ W : World, (Instr.index 111 (.agg (cells3 prsT).toArray) (.int .i64 5)).run Tryd.prog W = .ok (.agg #[.int .i32 (prsT.getD 5 (0, 0, 0)).1, .int .i32 (prsT.getD 5 (0, 0, 0)).2.1, .int .i32 (prsT.getD 5 (0, 0, 0)).2.2]) W := fun _ => by kernel_rfl
theorem iy6 : ∀ W : World, (Instr.index 111 (.agg (cells3 prsT).toArray) (.int .i64 6)).run Tryd.prog W = .ok (.agg #[.int .i32 (prsT.getD 6 (0, 0, 0)).1, .int .i32 (prsT.getD 6 (0, 0, 0)).2.1, .int .i32 (prsT.getD 6 (0, 0, 0)).2.2]) W := fun _ => by kernel_rfl
theorem iy7 : ∀ W : World, (Instr.index 111 (.agg (cells3 prsT).toArray) (.int .i64 7)).run Tryd.prog W = .ok (.agg #[.int .i32 (prsT.getD 7 (0, 0, 0)).1, .int .i32 (prsT.getD 7 (0, 0, 0)).2.1, .int .i32 (prsT.getD 7 (0, 0, 0)).2.2]) W := fun _ => by kernel_rfl
theorem iy8 : ∀ W : World, (Instr.index 111 (.agg (cells3 prsT).toArray) (.int .i64 8)).run Tryd.prog W = .ok (.agg #[.int .i32 (prsT.getD 8 (0, 0, 0)).1, .int .i32 (prsT.getD 8 (0, 0, 0)).2.1, .int .i32 (prsT.getD 8 (0, 0, 0)).2.2]) W := fun _ => by kernel_rfl
theorem iy9 : ∀ W : World, (Instr.index 111 (.agg (cells3 prsT).toArray) (.int .i64 9)).run Tryd.prog W = .ok (.agg #[.int .i32 (prsT.getD 9 (0, 0, 0)).1, .int .i32 (prsT.getD 9 (0, 0, 0)).2.1, .int .i32 (prsT.getD 9 (0, 0, 0)).2.2]) W := fun _ => by kernel_rfl
theorem iy10 : ∀ W : World, (Instr.index 111 (.agg (cells3 prsT).toArray) (.int .i64 10)).run Tryd.prog W = .ok (.agg #[.int .i32 (prsT.getD 10 (0, 0, 0)).1, .int .i32 (prsT.getD 10 (0, 0, 0)).2.1, .int .i32 (prsT.getD 10 (0, 0, 0)).2.2]) W := fun _ => by kernel_rfl
theorem iy11 : ∀ W : World, (Instr.index 111 (.agg (cells3 prsT).toArray) (.int .i64 11)).run Tryd.prog W = .ok (.agg #[.int .i32 (prsT.getD 11 (0, 0, 0)).1, .int .i32 (prsT.getD 11 (0, 0, 0)).2.1, .int .i32 (prsT.getD 11 (0, 0, 0)).2.2]) W := fun _ => by kernel_rfl
theorem iy12 : ∀ W : World, (Instr.index 111 (.agg (cells3 prsT).toArray) (.int .i64 12)).run Tryd.prog W = .ok (.agg #[.int .i32 (prsT.getD 12 (0, 0, 0)).1, .int .i32 (prsT.getD 12 (0, 0, 0)).2.1, .int .i32 (prsT.getD 12 (0, 0, 0)).2.2]) W := fun _ => by kernel_rfl
theorem iy13 : ∀ W : World, (Instr.index 111 (.agg (cells3 prsT).toArray) (.int .i64 13)).run Tryd.prog W = .ok (.agg #[.int .i32 (prsT.getD 13 (0, 0, 0)).1, .int .i32 (prsT.getD 13 (0, 0, 0)).2.1, .int .i32 (prsT.getD 13 (0, 0, 0)).2.2]) W := fun _ => by kernel_rfl
theorem iy14 : ∀ W : World, (Instr.index 111 (.agg (cells3 prsT).toArray) (.int .i64 14)).run Tryd.prog W = .ok (.agg #[.int .i32 (prsT.getD 14 (0, 0, 0)).1, .int .i32 (prsT.getD 14 (0, 0, 0)).2.1, .int .i32 (prsT.getD 14 (0, 0, 0)).2.2]) W := fun _ => by kernel_rfl
theorem iy15 : ∀ W : World, (Instr.index 111 (.agg (cells3 prsT).toArray) (.int .i64 15)).run Tryd.prog W = .ok (.agg #[.int .i32 (prsT.getD 15 (0, 0, 0)).1, .int .i32 (prsT.getD 15 (0, 0, 0)).2.1, .int .i32 (prsT.getD 15 (0, 0, 0)).2.2]) W := fun _ => by kernel_rfl
theorem iy16 : ∀ W : World, (Instr.index 111 (.agg (cells3 prsT).toArray) (.int .i64 16)).run Tryd.prog W = .ok (.agg #[.int .i32 (prsT.getD 16 (0, 0, 0)).1, .int .i32 (prsT.getD 16 (0, 0, 0)).2.1, .int .i32 (prsT.getD 16 (0, 0, 0)).2.2]) W := fun _ => by kernel_rfl
theorem iy17 : ∀ W : World, (Instr.index 111 (.agg (cells3 prsT).toArray) (.int .i64 17)).run Tryd.prog W = .ok (.agg #[.int .i32 (prsT.getD 17 (0, 0, 0)).1, .int .i32 (prsT.getD 17 (0, 0, 0)).2.1, .int .i32 (prsT.getD 17 (0, 0, 0)).2.2]) W := fun _ => by kernel_rfl
theorem iy18 : ∀ W : World, (Instr.index 111 (.agg (cells3 prsT).toArray) (.int .i64 18)).run Tryd.prog W = .ok (.agg #[.int .i32 (prsT.getD 18 (0, 0, 0)).1, .int .i32 (prsT.getD 18 (0, 0, 0)).2.1, .int .i32 (prsT.getD 18 (0, 0, 0)).2.2]) W := fun _ => by kernel_rfl
theorem iy19 : ∀ W : World, (Instr.index 111 (.agg (cells3 prsT).toArray) (.int .i64 19)).run Tryd.prog W = .ok (.agg #[.int .i32 (prsT.getD 19 (0, 0, 0)).1, .int .i32 (prsT.getD 19 (0, 0, 0)).2.1, .int .i32 (prsT.getD 19 (0, 0, 0)).2.2]) W := fun _ => by kernel_rfl
theorem iy20 : ∀ W : World, (Instr.index 111 (.agg (cells3 prsT).toArray) (.int .i64 20)).run Tryd.prog W = .ok (.agg #[.int .i32 (prsT.getD 20 (0, 0, 0)).1, .int .i32 (prsT.getD 20 (0, 0, 0)).2.1, .int .i32 (prsT.getD 20 (0, 0, 0)).2.2]) W := fun _ => by kernel_rfl
theorem iy21 : ∀ W : World, (Instr.index 111 (.agg (cells3 prsT).toArray) (.int .i64 21)).run Tryd.prog W = .ok (.agg #[.int .i32 (prsT.getD 21 (0, 0, 0)).1, .int .i32 (prsT.getD 21 (0, 0, 0)).2.1, .int .i32 (prsT.getD 21 (0, 0, 0)).2.2]) W := fun _ => by kernel_rfl
theorem iy22 : ∀ W : World, (Instr.index 111 (.agg (cells3 prsT).toArray) (.int .i64 22)).run Tryd.prog W = .ok (.agg #[.int .i32 (prsT.getD 22 (0, 0, 0)).1, .int .i32 (prsT.getD 22 (0, 0, 0)).2.1, .int .i32 (prsT.getD 22 (0, 0, 0)).2.2]) W := fun _ => by kernel_rfl
theorem iy23 : ∀ W : World, (Instr.index 111 (.agg (cells3 prsT).toArray) (.int .i64 23)).run Tryd.prog W = .ok (.agg #[.int .i32 (prsT.getD 23 (0, 0, 0)).1, .int .i32 (prsT.getD 23 (0, 0, 0)).2.1, .int .i32 (prsT.getD 23 (0, 0, 0)).2.2]) W := fun _ => by kernel_rfl
theorem iy24 : ∀ W : World, (Instr.index 111 (.agg (cells3 prsT).toArray) (.int .i64 24)).run Tryd.prog W = .ok (.agg #[.int .i32 (prsT.getD 24 (0, 0, 0)).1, .int .i32 (prsT.getD 24 (0, 0, 0)).2.1, .int .i32 (prsT.getD 24 (0, 0, 0)).2.2]) W := fun _ => by kernel_rfl
theorem iy25 : ∀ W : World, (Instr.index 111 (.agg (cells3 prsT).toArray) (.int .i64 25)).run Tryd.prog W = .ok (.agg #[.int .i32 (prsT.getD 25 (0, 0, 0)).1, .int .i32 (prsT.getD 25 (0, 0, 0)).2.1, .int .i32 (prsT.getD 25 (0, 0, 0)).2.2]) W := fun _ => by kernel_rfl
theorem iy26 : ∀ W : World, (Instr.index 111 (.agg (cells3 prsT).toArray) (.int .i64 26)).run Tryd.prog W = .ok (.agg #[.int .i32 (prsT.getD 26 (0, 0, 0)).1, .int .i32 (prsT.getD 26 (0, 0, 0)).2.1, .int .i32 (prsT.getD 26 (0, 0, 0)).2.2]) W := fun _ => by kernel_rfl
theorem iy27 : ∀ W : World, (Instr.index 111 (.agg (cells3 prsT).toArray) (.int .i64 27)).run Tryd.prog W = .ok (.agg #[.int .i32 (prsT.getD 27 (0, 0, 0)).1, .int .i32 (prsT.getD 27 (0, 0, 0)).2.1, .int .i32 (prsT.getD 27 (0, 0, 0)).2.2]) W := fun _ => by kernel_rfl
theorem iy28 : ∀ W : World, (Instr.index 111 (.agg (cells3 prsT).toArray) (.int .i64 28)).run Tryd.prog W = .ok (.agg #[.int .i32 (prsT.getD 28 (0, 0, 0)).1, .int .i32 (prsT.getD 28 (0, 0, 0)).2.1, .int .i32 (prsT.getD 28 (0, 0, 0)).2.2]) W := fun _ => by kernel_rfl
theorem iy29 : ∀ W : World, (Instr.index 111 (.agg (cells3 prsT).toArray) (.int .i64 29)).run Tryd.prog W = .ok (.agg #[.int .i32 (prsT.getD 29 (0, 0, 0)).1, .int .i32 (prsT.getD 29 (0, 0, 0)).2.1, .int .i32 (prsT.getD 29 (0, 0, 0)).2.2]) W := fun _ => by kernel_rfl
theorem iy30 : ∀ W : World, (Instr.index 111 (.agg (cells3 prsT).toArray) (.int .i64 30)).run Tryd.prog W = .ok (.agg #[.int .i32 (prsT.getD 30 (0, 0, 0)).1, .int .i32 (prsT.getD 30 (0, 0, 0)).2.1, .int .i32 (prsT.getD 30 (0, 0, 0)).2.2]) W := fun _ => by kernel_rfl
theorem idxP (i : Nat) (hi : i < 31) : ∀ W : World, (Instr.index 111 (.agg (cells3 prsT).toArray) (.int .i64 (i : Int))).run Tryd.prog W = .ok (.agg #[.int .i32 (prsT.getD i (0, 0, 0)).1, .int .i32 (prsT.getD i (0, 0, 0)).2.1, .int .i32 (prsT.getD i (0, 0, 0)).2.2]) W := by
  intro W
  match i, hi with
  | 0, _ => exact iy0 W
  | 1, _ => exact iy1 W
  | 2, _ => exact iy2 W
  | 3, _ => exact iy3 W
  | 4, _ => exact iy4 W
  | 5, _ => exact iy5 W
  | 6, _ => exact iy6 W
  | 7, _ => exact iy7 W
  | 8, _ => exact iy8 W
  | 9, _ => exact iy9 W
  | 10, _ => exact iy10 W
  | 11, _ => exact iy11 W
  | 12, _ => exact iy12 W
  | 13, _ => exact iy13 W
  | 14, _ => exact iy14 W
  | 15, _ => exact iy15 W
  | 16, _ => exact iy16 W
  | 17, _ => exact iy17 W
  | 18, _ => exact iy18 W
  | 19, _ => exact iy19 W
  | 20, _ => exact iy20 W
  | 21, _ => exact iy21 W
  | 22, _ => exact iy22 W
  | 23, _ => exact iy23 W
  | 24, _ => exact iy24 W
  | 25, _ => exact iy25 W
  | 26, _ => exact iy26 W
  | 27, _ => exact iy27 W
  | 28, _ => exact iy28 W
  | 29, _ => exact iy29 W
  | 30, _ => exact iy30 W
  | n + 31, h => exact absurd h (by omega)
theorem infoP : (Tryd.prog.info? 111).map (·.size) = some (cells3 prsT).length := by kernel_rfl
def PairPost (w : World) (r : Int) (e : Ending) (w' : World) : Prop := e = .returned (.tuple #[.int .i32 (pairU r).1, .int .i32 (pairU r).2.1, .int .i64 (pairU r).2.2]) ∧ Below w.heap.size w w'
set_option maxRecDepth 100000 in
set_option maxHeartbeats 1000000 in
theorem PairSyl (w : World) (s : Nat) (hs : s ≤ 11171) : Calls Tryd.prog 53 #[.int .i32 (44032 + (s : Int))] w (PairPost w (44032 + (s : Int))) := by
  have d1 : decide ((44032 : Int) ≤ 44032 + (s : Int)) = true := decide_eq_true (by omega); have d2 : decide (44032 + (s : Int) ≤ 55203) = true := decide_eq_true (by omega); (have t1 : (s : Int).tmod 28 = ((s % 28 : Nat) : Int) := by rw [Int.tmod_eq_emod_of_nonneg (by omega)]; omega); (have t2 : (s : Int).tmod 588 = ((s % 588 : Nat) : Int) := by rw [Int.tmod_eq_emod_of_nonneg (by omega)]; omega); (have t3 : (s : Int).tdiv 588 = ((s / 588 : Nat) : Int) := by rw [Int.tdiv_eq_ediv_of_nonneg (by omega)]; omega); (have t4 : ((s % 588 : Nat) : Int).tdiv 28 = ((s % 588 / 28 : Nat) : Int) := by rw [Int.tdiv_eq_ediv_of_nonneg (by omega)]; omega); (have e1 : 44032 + (s : Int) - 44032 = (s : Int) := by omega); (have b1 : s / 588 ≤ 18 := by omega); (have b2 : s % 588 / 28 ≤ 20 := by omega); (have b3 : s % 28 ≤ 27 := by omega); obtain ⟨x1, hx1⟩ : ∃ x, x = s % 28 := ⟨_, rfl⟩; obtain ⟨x2, hx2⟩ : ∃ x, x = s % 588 := ⟨_, rfl⟩; obtain ⟨x3, hx3⟩ : ∃ x, x = s / 588 := ⟨_, rfl⟩; rw [← hx1] at t1 b3; rw [← hx2] at t2 t4 b2; rw [← hx3] at t3 b1; obtain ⟨x4, hx4⟩ : ∃ x, x = x2 / 28 := ⟨_, rfl⟩; rw [← hx4] at t4 b2
  have hP : pairU (44032 + (s : Int)) = if x1 = 0 then (4352 + (x3 : Int), 4449 + (x4 : Int), 2) else (44032 + (s : Int) - (x1 : Int), 4519 + (x1 : Int), 2) := by
    unfold pairU; rw [if_pos ⟨by omega, by omega⟩, e1]; by_cases h : x1 = 0
    · rw [if_pos (by omega), if_pos h]; congr 1
      · omega
      · congr 1; omega
    · rw [if_neg (by omega), if_neg h]; congr 1
      · omega
      · congr 1; omega
  have HP := Aside0.mk hP; clear hP hx1 hx2 hx3 hx4; by_cases h : x1 = 0
  · subst h; go_enter Tryd.func53, Tryd.ntmps53; go_wp2; go_ret3; exact ⟨by rw [HP.out]; rfl, Below.refl _ _⟩
  · (have h0 : ((x1 : Int) == 0) = false := by simp; omega); go_enter Tryd.func53, Tryd.ntmps53; go_wp2; go_ret3; exact ⟨by rw [HP.out, if_neg h]; rfl, Below.refl _ _⟩
set_option maxRecDepth 100000 in
set_option maxHeartbeats 1000000 in
theorem PairLat (w : World) (hG : G w) (i : Nat) (hi : i < 64) : Calls Tryd.prog 53 #[.int .i32 (192 + (i : Int))] w (PairPost w (192 + (i : Int))) := by
  have HG := Aside0.mk hG; clear hG; have d1 : decide ((44032 : Int) ≤ 192 + (i : Int)) = false := decide_eq_false (by omega); have d2 : decide ((256 : Int) ≤ 192 + (i : Int)) = false := decide_eq_false (by omega); have d3 : decide (192 + (i : Int) < 192) = false := decide_eq_false (by omega); have d4 : decide ((255 : Int) < 192 + (i : Int)) = false := decide_eq_false (by omega); have e1 : 192 + (i : Int) - 192 = (i : Int) := by omega
  have hP : pairU (192 + (i : Int)) = ltr latL latM i := by
    unfold pairU; rw [if_neg (by omega), if_neg (by omega), if_neg (by omega), e1, Int.toNat_natCast]
  have hix := idxS latL i hi; have hiy := idxS latM i hi; have hmr := byt_range latM i; have har := byt_range latL i; obtain ⟨a, ha⟩ : ∃ a, a = byt latL i := ⟨_, rfl⟩; obtain ⟨m, hm⟩ : ∃ m, m = byt latM i := ⟨_, rfl⟩; rw [← ha] at hix har; rw [← hm] at hiy hmr; (have hwa : IntKind.i32.wrap a = a := by rw [IntKind.wrap_i32]; omega); unfold latL at hix; unfold latM at hiy; by_cases h : a = 46
  · (have h0 : (a == 46) = true := by simpa using h); have HP := Aside0.mk (show pairU (192 + (i : Int)) = (0, 0, 0) by rw [hP]; unfold ltr; rw [if_pos (by rw [← ha]; exact h)]); clear hP ha h hm; go_enter Tryd.func53, Tryd.ntmps53; go_wp2; go_ret3; exact ⟨by rw [HP.out]; rfl, Below.refl _ _⟩
  · (have h0 : (a == 46) = false := by simpa using h); have HP := Aside0.mk (show pairU (192 + (i : Int)) = (a, nmd m, 2) by rw [hP]; unfold ltr; rw [if_neg (by rw [← ha]; exact h), ← ha, ← hm]); clear hP ha h hm; go_enter Tryd.func53, Tryd.ntmps53; go_upto_region 21 with (fail); refine wp_region_held_drew (S := fun W => Below w.heap.size w W) (by kernel_rfl) (((Drawn0.refl w).step 1).below) (fun hS => ?_); refine wpAnyH_take (i := 0) (oi := { dst := some 78, op := _, type := _, pos := _, after := _, guard := _ }) (v := .string latL) rfl (by kernel_rfl) (by kernel_rfl) (by kernel_rfl) (fun _ _ _ h => h) (Or.inl ⟨by rfl, fun W hW => ?_⟩) hS ?_
    · (go_simp)
    (try simp only [Act.put, List.setIfInBounds_toArray, List.set_cons_zero, List.set_cons_succ]); refine wpAnyH_take (i := 1) (oi := { dst := some 79, op := _, type := _, pos := _, after := _, guard := _ }) (v := .int .i32 (i : Int)) rfl (by kernel_rfl) (by kernel_rfl) (by kernel_rfl) (fun _ _ _ h => h) (Or.inl ⟨by rfl, fun W hW => ?_⟩) hS ?_
    · (go_simp)
    (try simp only [Act.put, List.setIfInBounds_toArray, List.set_cons_zero, List.set_cons_succ]); refine wpAnyH_take (i := 2) (oi := { dst := some 80, op := _, type := _, pos := _, after := _, guard := _ }) (v := .int .u8 a) rfl (by kernel_rfl) (by kernel_rfl) (by kernel_rfl) (fun _ _ _ h => h) (Or.inl ⟨by rfl, fun W hW => ?_⟩) hS ?_
    · (have h := hix W; go_simp)
    (try simp only [Act.put, List.setIfInBounds_toArray, List.set_cons_zero, List.set_cons_succ]); refine wpAnyH_take (i := 3) (oi := { dst := some 81, op := _, type := _, pos := _, after := _, guard := _ }) (v := .int .i32 a) rfl (by kernel_rfl) (by kernel_rfl) (by kernel_rfl) (fun _ _ _ h => h) (Or.inl ⟨by rfl, fun W hW => ?_⟩) hS ?_
    · (go_simp)
    (try simp only [Act.put, List.setIfInBounds_toArray, List.set_cons_zero, List.set_cons_succ]); refine wpAnyH_take (i := 4) (oi := { dst := some 82, op := _, type := _, pos := _, after := _, guard := _ }) (v := .string latM) rfl (by kernel_rfl) (by kernel_rfl) (by kernel_rfl) (fun _ _ _ h => h) (Or.inl ⟨by rfl, fun W hW => ?_⟩) hS ?_
    · (go_simp)
    (try simp only [Act.put, List.setIfInBounds_toArray, List.set_cons_zero, List.set_cons_succ]); refine wpAnyH_take (i := 5) (oi := { dst := some 83, op := _, type := _, pos := _, after := _, guard := _ }) (v := .int .i32 (i : Int)) rfl (by kernel_rfl) (by kernel_rfl) (by kernel_rfl) (fun _ _ _ h => h) (Or.inl ⟨by rfl, fun W hW => ?_⟩) hS ?_
    · (go_simp)
    (try simp only [Act.put, List.setIfInBounds_toArray, List.set_cons_zero, List.set_cons_succ]); refine wpAnyH_take (i := 6) (oi := { dst := some 84, op := _, type := _, pos := _, after := _, guard := _ }) (v := .int .u8 m) rfl (by kernel_rfl) (by kernel_rfl) (by kernel_rfl) (fun _ _ _ h => h) (Or.inl ⟨by rfl, fun W hW => ?_⟩) hS ?_
    · (have h := hiy W; go_simp)
    (try simp only [Act.put, List.setIfInBounds_toArray, List.set_cons_zero, List.set_cons_succ]); refine wpAnyH_ready (rs := [7]) (by kernel_rfl) (by simp) ?_; refine AllReadyH.cons (o := { dst := some 85, op := _, type := _, pos := _, after := _, guard := _ }) rfl (fun K hK => ?_) AllReadyH.nil; go_simp
    (go_at_call 83)
    refine (NamedP w.drew (HG.out.below hS) m hmr).mono ?_; rintro e w5 ⟨rfl, p1⟩; have hS2 := below_then hS hS.size p1; go_wp2_with fail; refine hK.out _ _ hS2 (fun hS3 => ?_); clear hK K hS p1 hS3; have hS := hS2; clear hS2; (try simp only [Act.put, List.setIfInBounds_toArray, List.set_cons_zero, List.set_cons_succ]); refine wpAnyH_take (i := 8) (oi := { dst := some 2, op := _, type := _, pos := _, after := _, guard := _ }) (v := .int .i32 a) rfl (by kernel_rfl) (by kernel_rfl) (by kernel_rfl) (fun _ _ _ h => h) (Or.inl ⟨by rfl, fun W hW => ?_⟩) hS ?_
    · (go_simp)
    (try simp only [Act.put, List.setIfInBounds_toArray, List.set_cons_zero, List.set_cons_succ]); refine wpAnyH_take (i := 9) (oi := { dst := some 3, op := _, type := _, pos := _, after := _, guard := _ }) (v := .int .i32 (nmd m)) rfl (by kernel_rfl) (by kernel_rfl) (by kernel_rfl) (fun _ _ _ h => h) (Or.inl ⟨by rfl, fun W hW => ?_⟩) hS ?_
    · (go_simp)
    (try simp only [Act.put, List.setIfInBounds_toArray, List.set_cons_zero, List.set_cons_succ]); refine wpAnyH_take (i := 10) (oi := { dst := some 4, op := _, type := _, pos := _, after := _, guard := _ }) (v := .int .i64 2) rfl (by kernel_rfl) (by kernel_rfl) (by kernel_rfl) (fun _ _ _ h => h) (Or.inl ⟨by rfl, fun W hW => ?_⟩) hS ?_
    · (go_simp)
    (try simp only [Act.put, List.setIfInBounds_toArray, List.set_cons_zero, List.set_cons_succ]); refine wpAnyH_done (by kernel_rfl) ?_ _; go_wp2; go_ret3; exact ⟨by rw [HP.out]; rfl, hS⟩
set_option maxRecDepth 100000 in
set_option maxHeartbeats 1000000 in
theorem PairMor (w : World) (hG : G w) (i : Nat) (hi : i < 128) : Calls Tryd.prog 53 #[.int .i32 (256 + (i : Int))] w (PairPost w (256 + (i : Int))) := by
  have HG := Aside0.mk hG; clear hG; have d1 : decide ((44032 : Int) ≤ 256 + (i : Int)) = false := decide_eq_false (by omega); have d2 : decide ((256 : Int) ≤ 256 + (i : Int)) = true := decide_eq_true (by omega); have d3 : decide (256 + (i : Int) < 384) = true := decide_eq_true (by omega); have e1 : 256 + (i : Int) - 256 = (i : Int) := by omega
  have hP : pairU (256 + (i : Int)) = ltr morL morM i := by
    unfold pairU; rw [if_neg (by omega), if_pos (by omega), e1, Int.toNat_natCast]
  have hix := idxS morL i hi; have hiy := idxS morM i hi; have hmr := byt_range morM i; have har := byt_range morL i; obtain ⟨a, ha⟩ : ∃ a, a = byt morL i := ⟨_, rfl⟩; obtain ⟨m, hm⟩ : ∃ m, m = byt morM i := ⟨_, rfl⟩; rw [← ha] at hix har; rw [← hm] at hiy hmr; (have hwa : IntKind.i32.wrap a = a := by rw [IntKind.wrap_i32]; omega); unfold morL at hix; unfold morM at hiy; by_cases h : a = 46
  · (have h0 : (a == 46) = true := by simpa using h); have HP := Aside0.mk (show pairU (256 + (i : Int)) = (0, 0, 0) by rw [hP]; unfold ltr; rw [if_pos (by rw [← ha]; exact h)]); clear hP ha h hm; go_enter Tryd.func53, Tryd.ntmps53; go_wp2; go_ret3; exact ⟨by rw [HP.out]; rfl, Below.refl _ _⟩
  · (have h0 : (a == 46) = false := by simpa using h); have HP := Aside0.mk (show pairU (256 + (i : Int)) = (a, nmd m, 2) by rw [hP]; unfold ltr; rw [if_neg (by rw [← ha]; exact h), ← ha, ← hm]); clear hP ha h hm; go_enter Tryd.func53, Tryd.ntmps53; go_upto_region 21 with (fail); refine wp_region_held_drew (S := fun W => Below w.heap.size w W) (by kernel_rfl) (((Drawn0.refl w).step 1).below) (fun hS => ?_); refine wpAnyH_take (i := 0) (oi := { dst := some 78, op := _, type := _, pos := _, after := _, guard := _ }) (v := .string morL) rfl (by kernel_rfl) (by kernel_rfl) (by kernel_rfl) (fun _ _ _ h => h) (Or.inl ⟨by rfl, fun W hW => ?_⟩) hS ?_
    · (go_simp)
    (try simp only [Act.put, List.setIfInBounds_toArray, List.set_cons_zero, List.set_cons_succ]); refine wpAnyH_take (i := 1) (oi := { dst := some 79, op := _, type := _, pos := _, after := _, guard := _ }) (v := .int .i32 (i : Int)) rfl (by kernel_rfl) (by kernel_rfl) (by kernel_rfl) (fun _ _ _ h => h) (Or.inl ⟨by rfl, fun W hW => ?_⟩) hS ?_
    · (go_simp)
    (try simp only [Act.put, List.setIfInBounds_toArray, List.set_cons_zero, List.set_cons_succ]); refine wpAnyH_take (i := 2) (oi := { dst := some 80, op := _, type := _, pos := _, after := _, guard := _ }) (v := .int .u8 a) rfl (by kernel_rfl) (by kernel_rfl) (by kernel_rfl) (fun _ _ _ h => h) (Or.inl ⟨by rfl, fun W hW => ?_⟩) hS ?_
    · (have h := hix W; go_simp)
    (try simp only [Act.put, List.setIfInBounds_toArray, List.set_cons_zero, List.set_cons_succ]); refine wpAnyH_take (i := 3) (oi := { dst := some 81, op := _, type := _, pos := _, after := _, guard := _ }) (v := .int .i32 a) rfl (by kernel_rfl) (by kernel_rfl) (by kernel_rfl) (fun _ _ _ h => h) (Or.inl ⟨by rfl, fun W hW => ?_⟩) hS ?_
    · (go_simp)
    (try simp only [Act.put, List.setIfInBounds_toArray, List.set_cons_zero, List.set_cons_succ]); refine wpAnyH_take (i := 4) (oi := { dst := some 82, op := _, type := _, pos := _, after := _, guard := _ }) (v := .string morM) rfl (by kernel_rfl) (by kernel_rfl) (by kernel_rfl) (fun _ _ _ h => h) (Or.inl ⟨by rfl, fun W hW => ?_⟩) hS ?_
    · (go_simp)
    (try simp only [Act.put, List.setIfInBounds_toArray, List.set_cons_zero, List.set_cons_succ]); refine wpAnyH_take (i := 5) (oi := { dst := some 83, op := _, type := _, pos := _, after := _, guard := _ }) (v := .int .i32 (i : Int)) rfl (by kernel_rfl) (by kernel_rfl) (by kernel_rfl) (fun _ _ _ h => h) (Or.inl ⟨by rfl, fun W hW => ?_⟩) hS ?_
    · (go_simp)
    (try simp only [Act.put, List.setIfInBounds_toArray, List.set_cons_zero, List.set_cons_succ]); refine wpAnyH_take (i := 6) (oi := { dst := some 84, op := _, type := _, pos := _, after := _, guard := _ }) (v := .int .u8 m) rfl (by kernel_rfl) (by kernel_rfl) (by kernel_rfl) (fun _ _ _ h => h) (Or.inl ⟨by rfl, fun W hW => ?_⟩) hS ?_
    · (have h := hiy W; go_simp)
    (try simp only [Act.put, List.setIfInBounds_toArray, List.set_cons_zero, List.set_cons_succ]); refine wpAnyH_ready (rs := [7]) (by kernel_rfl) (by simp) ?_; refine AllReadyH.cons (o := { dst := some 85, op := _, type := _, pos := _, after := _, guard := _ }) rfl (fun K hK => ?_) AllReadyH.nil; go_simp
    (go_at_call 83)
    refine (NamedP w.drew (HG.out.below hS) m hmr).mono ?_; rintro e w5 ⟨rfl, p1⟩; have hS2 := below_then hS hS.size p1; go_wp2_with fail; refine hK.out _ _ hS2 (fun hS3 => ?_); clear hK K hS p1 hS3; have hS := hS2; clear hS2; (try simp only [Act.put, List.setIfInBounds_toArray, List.set_cons_zero, List.set_cons_succ]); refine wpAnyH_take (i := 8) (oi := { dst := some 2, op := _, type := _, pos := _, after := _, guard := _ }) (v := .int .i32 a) rfl (by kernel_rfl) (by kernel_rfl) (by kernel_rfl) (fun _ _ _ h => h) (Or.inl ⟨by rfl, fun W hW => ?_⟩) hS ?_
    · (go_simp)
    (try simp only [Act.put, List.setIfInBounds_toArray, List.set_cons_zero, List.set_cons_succ]); refine wpAnyH_take (i := 9) (oi := { dst := some 3, op := _, type := _, pos := _, after := _, guard := _ }) (v := .int .i32 (nmd m)) rfl (by kernel_rfl) (by kernel_rfl) (by kernel_rfl) (fun _ _ _ h => h) (Or.inl ⟨by rfl, fun W hW => ?_⟩) hS ?_
    · (go_simp)
    (try simp only [Act.put, List.setIfInBounds_toArray, List.set_cons_zero, List.set_cons_succ]); refine wpAnyH_take (i := 10) (oi := { dst := some 4, op := _, type := _, pos := _, after := _, guard := _ }) (v := .int .i64 2) rfl (by kernel_rfl) (by kernel_rfl) (by kernel_rfl) (fun _ _ _ h => h) (Or.inl ⟨by rfl, fun W hW => ?_⟩) hS ?_
    · (go_simp)
    (try simp only [Act.put, List.setIfInBounds_toArray, List.set_cons_zero, List.set_cons_succ]); refine wpAnyH_done (by kernel_rfl) ?_ _; go_wp2; go_ret3; exact ⟨by rw [HP.out]; rfl, hS⟩
set_option maxRecDepth 100000 in
set_option maxHeartbeats 1000000 in
theorem PairTab (w : World) (hG : G w) (r : Int) (hr5 : -2147483648 ≤ r ∧ r ≤ 2147483647) (h1 : ¬ (44032 ≤ r ∧ r ≤ 55203)) (h2 : ¬ (256 ≤ r ∧ r < 384)) (h3 : r < 192 ∨ 255 < r) : Calls Tryd.prog 53 #[.int .i32 r] w (PairPost w r) := by
  (have hP : pairU r = prsF r prsT := by unfold pairU; rw [if_neg h1, if_neg h2, if_pos h3]); obtain ⟨tl, htl⟩ : ∃ tl, tl = cells3 prsT := ⟨_, rfl⟩; have HT := Aside0.mk (show w.rangeAt 0 0 tl by rw [htl]; exact hG.2.1); have HI := Aside0.mk (show (Tryd.prog.info? 111).map (·.size) = some tl.length by rw [htl]; exact infoP); have HX := Aside0.mk (show ∀ i : Nat, i < 31 → ∀ W : World, (Instr.index 111 (.agg tl.toArray) (.int .i64 (i : Int))).run Tryd.prog W = .ok (.agg #[.int .i32 (prsT.getD i (0, 0, 0)).1, .int .i32 (prsT.getD i (0, 0, 0)).2.1, .int .i32 (prsT.getD i (0, 0, 0)).2.2]) W by rw [htl]; exact idxP); have HP := Aside0.mk hP; clear hG htl hP; have hu43 := Tryd.underlying110; (have hcase : r < 192 ∨ (384 ≤ r ∧ r < 44032) ∨ 55203 < r := by omega); clear h1 h2 h3; rcases hcase with h1 | ⟨h1, h2⟩ | h1
  · have d1 : decide (44032 ≤ r) = false := decide_eq_false (by omega); have d2 : decide (256 ≤ r) = false := decide_eq_false (by omega); have d3 : decide (r < 192) = true := decide_eq_true (by omega); go_enter Tryd.func53, Tryd.ntmps53; go_wp2_with (refine wpList_load_mid rfl 111 (.global 0) rfl 0 0 rfl tl _ HT.out Tryd.underlying111 rfl HI.out ?_); go_loopw [57] (fun iv wr => ∃ i : Nat, i ≤ 31 ∧ iv = .int .i64 i ∧ Aside0 (pairU r = prsF r (prsT.drop i)) ∧ Aside0 (Below w.heap.size w wr)) (fun iv _ => 31 - (intOf iv).toNat)
    case atStart => exact ⟨0, Nat.zero_le _, rfl, ⟨HP.out⟩, ⟨Below.refl _ _⟩⟩
    case round =>
      obtain ⟨i, hi, rfl, HE, HB⟩ := hrel; by_cases hlt : i < 31
      · have hd : decide ((i : Int) < 31) = true := decide_eq_true (by omega); have hix := HX.out i hlt; have he := HE.out
        have hdr : prsT.drop i = prsT.getD i (0, 0, 0) :: prsT.drop (i + 1) := by
          have h1 : i < prsT.length := hlt; rw [List.drop_eq_getElem_cons h1, List.getD_eq_getElem?_getD, List.getElem?_eq_getElem h1]
          rfl
        rw [hdr, prsF] at he; obtain ⟨⟨a, b, c⟩, hp⟩ : ∃ p, p = prsT.getD i (0, 0, 0) := ⟨_, rfl⟩; rw [← hp] at hix he; simp only at hix he; clear hp hdr; have NB := Aside0.mk (show Below w.heap.size w (wr.alloc (.cells #[.int .i32 a, .int .i32 b, .int .i32 c] 110)) from below_then HB.out HB.out.size (below_alloc (Below.refl _ _) _)); by_cases ha : a = r
        · (have ha1 : (a == r) = true := by simpa using ha); rw [if_pos ha] at he; by_cases hc : c = 0
          · (have hc1 : (c == 0) = true := by simpa using hc); rw [if_pos hc] at he; have HE1 := Aside0.mk he; clear he ha hc; go_wp2; go_ret3; exact ⟨by rw [HE1.out]; rfl, NB.out⟩
          · (have hc1 : (c == 0) = false := by simpa using hc); rw [if_neg hc] at he; have HE1 := Aside0.mk he; clear he ha hc; go_wp2; go_quiet (fail); go_wp2; go_ret3; exact ⟨by rw [HE1.out]; rfl, below_then NB.out NB.out.size ((Drawn0.refl _).step nq).below⟩
        · (have ha1 : (a == r) = false := by simpa using ha); rw [if_neg ha] at he; have HE1 := Aside0.mk he; clear he ha; go_wp2; go_roundw
          case rel => exact ⟨i + 1, by omega, by go_num, HE1, NB⟩
          case measure => simp [intOf]; omega
      · have hd : decide ((i : Int) < 31) = false := decide_eq_false (by omega); (obtain rfl : i = 31 := by omega); have HE1 := Aside0.mk (show pairU r = (0, 0, 0) from HE.out); go_wp2; go_ret3; exact ⟨by rw [HE1.out]; rfl, HB.out⟩
  · have d1 : decide (44032 ≤ r) = false := decide_eq_false (by omega); have d2 : decide (256 ≤ r) = true := decide_eq_true (by omega); have d3 : decide (r < 384) = false := decide_eq_false (by omega); have d4 : decide (r < 192) = false := decide_eq_false (by omega); have d5 : decide (255 < r) = true := decide_eq_true (by omega); go_enter Tryd.func53, Tryd.ntmps53; go_wp2_with (refine wpList_load_mid rfl 111 (.global 0) rfl 0 0 rfl tl _ HT.out Tryd.underlying111 rfl HI.out ?_); go_loopw [57] (fun iv wr => ∃ i : Nat, i ≤ 31 ∧ iv = .int .i64 i ∧ Aside0 (pairU r = prsF r (prsT.drop i)) ∧ Aside0 (Below w.heap.size w wr)) (fun iv _ => 31 - (intOf iv).toNat)
    case atStart => exact ⟨0, Nat.zero_le _, rfl, ⟨HP.out⟩, ⟨Below.refl _ _⟩⟩
    case round =>
      obtain ⟨i, hi, rfl, HE, HB⟩ := hrel; by_cases hlt : i < 31
      · have hd : decide ((i : Int) < 31) = true := decide_eq_true (by omega); have hix := HX.out i hlt; have he := HE.out
        have hdr : prsT.drop i = prsT.getD i (0, 0, 0) :: prsT.drop (i + 1) := by
          have h1 : i < prsT.length := hlt; rw [List.drop_eq_getElem_cons h1, List.getD_eq_getElem?_getD, List.getElem?_eq_getElem h1]
          rfl
        rw [hdr, prsF] at he; obtain ⟨⟨a, b, c⟩, hp⟩ : ∃ p, p = prsT.getD i (0, 0, 0) := ⟨_, rfl⟩; rw [← hp] at hix he; simp only at hix he; clear hp hdr; have NB := Aside0.mk (show Below w.heap.size w (wr.alloc (.cells #[.int .i32 a, .int .i32 b, .int .i32 c] 110)) from below_then HB.out HB.out.size (below_alloc (Below.refl _ _) _)); by_cases ha : a = r
        · (have ha1 : (a == r) = true := by simpa using ha); rw [if_pos ha] at he; by_cases hc : c = 0
          · (have hc1 : (c == 0) = true := by simpa using hc); rw [if_pos hc] at he; have HE1 := Aside0.mk he; clear he ha hc; go_wp2; go_ret3; exact ⟨by rw [HE1.out]; rfl, NB.out⟩
          · (have hc1 : (c == 0) = false := by simpa using hc); rw [if_neg hc] at he; have HE1 := Aside0.mk he; clear he ha hc; go_wp2; go_quiet (fail); go_wp2; go_ret3; exact ⟨by rw [HE1.out]; rfl, below_then NB.out NB.out.size ((Drawn0.refl _).step nq).below⟩
        · (have ha1 : (a == r) = false := by simpa using ha); rw [if_neg ha] at he; have HE1 := Aside0.mk he; clear he ha; go_wp2; go_roundw
          case rel => exact ⟨i + 1, by omega, by go_num, HE1, NB⟩
          case measure => simp [intOf]; omega
      · have hd : decide ((i : Int) < 31) = false := decide_eq_false (by omega); (obtain rfl : i = 31 := by omega); have HE1 := Aside0.mk (show pairU r = (0, 0, 0) from HE.out); go_wp2; go_ret3; exact ⟨by rw [HE1.out]; rfl, HB.out⟩
  · have d1 : decide (44032 ≤ r) = true := decide_eq_true (by omega); have d0 : decide (r ≤ 55203) = false := decide_eq_false (by omega); have d2 : decide (256 ≤ r) = true := decide_eq_true (by omega); have d3 : decide (r < 384) = false := decide_eq_false (by omega); have d4 : decide (r < 192) = false := decide_eq_false (by omega); have d5 : decide (255 < r) = true := decide_eq_true (by omega); go_enter Tryd.func53, Tryd.ntmps53; go_wp2_with (refine wpList_load_mid rfl 111 (.global 0) rfl 0 0 rfl tl _ HT.out Tryd.underlying111 rfl HI.out ?_); go_loopw [57] (fun iv wr => ∃ i : Nat, i ≤ 31 ∧ iv = .int .i64 i ∧ Aside0 (pairU r = prsF r (prsT.drop i)) ∧ Aside0 (Below w.heap.size w wr)) (fun iv _ => 31 - (intOf iv).toNat)
    case atStart => exact ⟨0, Nat.zero_le _, rfl, ⟨HP.out⟩, ⟨Below.refl _ _⟩⟩
    case round =>
      obtain ⟨i, hi, rfl, HE, HB⟩ := hrel; by_cases hlt : i < 31
      · have hd : decide ((i : Int) < 31) = true := decide_eq_true (by omega); have hix := HX.out i hlt; have he := HE.out
        have hdr : prsT.drop i = prsT.getD i (0, 0, 0) :: prsT.drop (i + 1) := by
          have h1 : i < prsT.length := hlt; rw [List.drop_eq_getElem_cons h1, List.getD_eq_getElem?_getD, List.getElem?_eq_getElem h1]
          rfl
        rw [hdr, prsF] at he; obtain ⟨⟨a, b, c⟩, hp⟩ : ∃ p, p = prsT.getD i (0, 0, 0) := ⟨_, rfl⟩; rw [← hp] at hix he; simp only at hix he; clear hp hdr; have NB := Aside0.mk (show Below w.heap.size w (wr.alloc (.cells #[.int .i32 a, .int .i32 b, .int .i32 c] 110)) from below_then HB.out HB.out.size (below_alloc (Below.refl _ _) _)); by_cases ha : a = r
        · (have ha1 : (a == r) = true := by simpa using ha); rw [if_pos ha] at he; by_cases hc : c = 0
          · (have hc1 : (c == 0) = true := by simpa using hc); rw [if_pos hc] at he; have HE1 := Aside0.mk he; clear he ha hc; go_wp2; go_ret3; exact ⟨by rw [HE1.out]; rfl, NB.out⟩
          · (have hc1 : (c == 0) = false := by simpa using hc); rw [if_neg hc] at he; have HE1 := Aside0.mk he; clear he ha hc; go_wp2; go_quiet (fail); go_wp2; go_ret3; exact ⟨by rw [HE1.out]; rfl, below_then NB.out NB.out.size ((Drawn0.refl _).step nq).below⟩
        · (have ha1 : (a == r) = false := by simpa using ha); rw [if_neg ha] at he; have HE1 := Aside0.mk he; clear he ha; go_wp2; go_roundw
          case rel => exact ⟨i + 1, by omega, by go_num, HE1, NB⟩
          case measure => simp [intOf]; omega
      · have hd : decide ((i : Int) < 31) = false := decide_eq_false (by omega); (obtain rfl : i = 31 := by omega); have HE1 := Aside0.mk (show pairU r = (0, 0, 0) from HE.out); go_wp2; go_ret3; exact ⟨by rw [HE1.out]; rfl, HB.out⟩
theorem PairP (w : World) (hG : G w) (r : Int) (hr : -2147483648 ≤ r ∧ r ≤ 2147483647) : Calls Tryd.prog 53 #[.int .i32 r] w (PairPost w r) := by
  by_cases h1 : 44032 ≤ r ∧ r ≤ 55203
  · have := PairSyl w (r - 44032).toNat (by omega); rw [show 44032 + ((r - 44032).toNat : Int) = r by omega] at this; exact this
  · by_cases h2 : 256 ≤ r ∧ r < 384
    · have := PairMor w hG (r - 256).toNat (by omega); rw [show 256 + ((r - 256).toNat : Int) = r by omega] at this; exact this
    · by_cases h3 : r < 192 ∨ 255 < r
      · exact PairTab w hG r hr h1 h2 h3
      · have := PairLat w hG (r - 192).toNat (by omega); rw [show 192 + ((r - 192).toNat : Int) = r by omega] at this; exact this
end Go.Proofs.YthffpkdadffinaaDoor.Vc
namespace Go.Proofs.YthffpkdadffinaaDoor.X
set_option linter.unusedVariables false
set_option linter.unusedSimpArgs false
open Go.RowKit YthffpkdadffinaaDoorW.PrintWords
end Go.Proofs.YthffpkdadffinaaDoor.X
namespace Go.Proofs.YthffpkdadffinaaDoor.Vd
set_option linter.unusedVariables false
set_option linter.unusedSimpArgs false
open Go.RowKit YthffpkdadffinaaDoorW.PrintWords Hp Va Vc
def decF : Nat → Int → List Int
  | 0, r => [r]
  | k + 1, r => if (pairU r).2.2 = 0 then [r] else if (pairU r).2.2 = 1 then decF k (pairU r).1 else decF k (pairU r).1 ++ decF k (pairU r).2.1
def okF : Nat → Int → Bool
  | 0, _ => false
  | k + 1, r => if (pairU r).2.2 = 0 then true else if (pairU r).2.2 = 1 then okF k (pairU r).1 else okF k (pairU r).1 && okF k (pairU r).2.1
def keys : List Int := (List.range 192).map (fun i : Nat => (192 : Int) + (i : Int)) ++ prsT.map (·.1)
theorem prsF_none (r : Int) : ∀ l : List (Int × Int × Int), r ∉ l.map (·.1) → prsF r l = (0, 0, 0)
  | [], _ => rfl
  | p :: t, h => by
    simp only [List.map_cons, List.mem_cons, not_or] at h; rw [prsF, if_neg (fun e => h.1 e.symm), prsF_none r t h.2]
theorem pair_zero (r : Int) (hs : ¬ (44032 ≤ r ∧ r ≤ 55203)) (hk : r ∉ keys) : pairU r = (0, 0, 0) := by
  unfold keys at hk; rw [List.mem_append, not_or] at hk; (have h1 : ¬ (192 ≤ r ∧ r < 384) := fun h => hk.1 (List.mem_map.2 ⟨(r - 192).toNat, List.mem_range.2 (by omega), by omega⟩)); unfold pairU; rw [if_neg hs, if_neg (by omega), if_pos (by omega)]; exact prsF_none r _ hk.2
theorem syl_pair (s : Nat) (hs : s ≤ 11171) : pairU (44032 + (s : Int)) = if s % 28 = 0 then (4352 + ((s / 588 : Nat) : Int), 4449 + ((s % 588 / 28 : Nat) : Int), 2) else (44032 + (s : Int) - ((s % 28 : Nat) : Int), 4519 + ((s % 28 : Nat) : Int), 2) := by
  (have e1 : 44032 + (s : Int) - 44032 = (s : Int) := by omega); unfold pairU; rw [if_pos ⟨by omega, by omega⟩, e1]; by_cases h : s % 28 = 0
  · rw [if_pos (by omega), if_pos h]; congr 1
  · rw [if_neg (by omega), if_neg h]; congr 1
theorem cases3 (r : Int) : r ∈ keys ∨ (∃ s : Nat, s ≤ 11171 ∧ r = 44032 + (s : Int)) ∨ pairU r = (0, 0, 0) := by
  by_cases hk : r ∈ keys
  · exact .inl hk
  · by_cases hs : 44032 ≤ r ∧ r ≤ 55203
    · exact .inr (.inl ⟨(r - 44032).toNat, by omega, by omega⟩)
    · exact .inr (.inr (pair_zero r hs hk))
theorem jamo_none : ∀ k ∈ keys, k < 4352 ∨ 4546 < k := by decide +kernel
theorem jamo_zero (r : Int) (h : 4352 ≤ r ∧ r ≤ 4546) : pairU r = (0, 0, 0) := pair_zero r (by omega) (fun hk => by have := jamo_none r hk; omega)
theorem keys_pair : ∀ k ∈ keys, (0 ≤ (pairU k).1 ∧ (pairU k).1 < 65536) ∧ (0 ≤ (pairU k).2.1 ∧ (pairU k).2.1 < 65536) ∧ (0 ≤ (pairU k).2.2 ∧ (pairU k).2.2 < 3) ∧ okF 4 k = true := by decide +kernel
theorem okF_zero (k : Nat) (r : Int) (h : pairU r = (0, 0, 0)) : okF (k + 1) r = true := by rw [okF, h]; rfl
theorem decF_zero (k : Nat) (r : Int) (h : pairU r = (0, 0, 0)) : decF k r = [r] := by cases k with
  | zero => rfl
  | succ k => rw [decF, h]; rfl
theorem syl_lv (s : Nat) (hs : s ≤ 11171) (ht : s % 28 = 0) (k : Nat) : okF (k + 2) (44032 + (s : Int)) = true ∧ decF (k + 1) (44032 + (s : Int)) = [4352 + ((s / 588 : Nat) : Int), 4449 + ((s % 588 / 28 : Nat) : Int)] := by
  have h := syl_pair s hs; rw [if_pos ht] at h; have z1 := jamo_zero (4352 + ((s / 588 : Nat) : Int)) (by omega); have z2 := jamo_zero (4449 + ((s % 588 / 28 : Nat) : Int)) (by omega); rw [okF, decF, h]; simp only [okF_zero _ _ z1, okF_zero _ _ z2, decF_zero _ _ z1, decF_zero _ _ z2]; exact ⟨rfl, rfl⟩
theorem syl_all (s : Nat) (hs : s ≤ 11171) (k : Nat) : okF (k + 3) (44032 + (s : Int)) = true ∧ decF (k + 2) (44032 + (s : Int)) = [4352 + ((s / 588 : Nat) : Int), 4449 + ((s % 588 / 28 : Nat) : Int)] ++ if s % 28 = 0 then [] else [4519 + ((s % 28 : Nat) : Int)] := by
  by_cases ht : s % 28 = 0
  · have := syl_lv s hs ht (k + 1); rw [if_pos ht, List.append_nil]; exact this
  · have h := syl_pair s hs; rw [if_neg ht] at h ⊢; have h1 := syl_lv (s - s % 28) (by omega) (by omega) k; have z2 := jamo_zero (4519 + ((s % 28 : Nat) : Int)) (by omega); rw [show 44032 + ((s - s % 28 : Nat) : Int) = 44032 + (s : Int) - ((s % 28 : Nat) : Int) by omega, show (s - s % 28) / 588 = s / 588 by omega, show (s - s % 28) % 588 / 28 = s % 588 / 28 by omega] at h1; rw [okF, decF, h]; simp only [h1.1, h1.2, okF_zero _ _ z2, decF_zero _ _ z2]; exact ⟨rfl, rfl⟩
theorem okAll (r : Int) : okF 4 r = true := by
  rcases cases3 r with h | ⟨s, hs, rfl⟩ | h
  · exact (keys_pair r h).2.2.2
  · exact (syl_all s hs 1).1
  · exact okF_zero _ _ h
def decU (r : Int) : List Int := decF 4 r
theorem pair_range (r : Int) : (0 ≤ (pairU r).1 ∧ (pairU r).1 < 65536) ∧ (0 ≤ (pairU r).2.1 ∧ (pairU r).2.1 < 65536) ∧ (0 ≤ (pairU r).2.2 ∧ (pairU r).2.2 < 3) := by
  rcases cases3 r with h | ⟨s, hs, rfl⟩ | h
  · have := keys_pair r h; exact ⟨this.1, this.2.1, this.2.2.1⟩
  · rw [syl_pair s hs]; split <;> simp only <;> omega
  · rw [h]; simp
theorem decF_len : ∀ (k : Nat) (r : Int), (decF k r).length ≤ 2 ^ k
  | 0, _ => by simp [decF]
  | k + 1, r => by
    have h1 := decF_len k (pairU r).1; have h2 := decF_len k (pairU r).2.1; have h3 : 0 < 2 ^ k := Nat.two_pow_pos k; rw [decF, Nat.pow_succ]; split
    · simp; omega
    · split
      · omega
      · rw [List.length_append]; omega
abbrev K3 : Kd Int := Kd.int .i32
theorem info_3 : (Tryd.prog.info? 21).map (fun i => (i.zero, i.size, i.bytes)) = some (some (.int .i32 0), 1, 4) := by kernel_rfl
theorem K3_KM {w w' : World} {base : Nat} {ok : Nat → Prop} (x : Int) (cs : List Value) (h : K3.K w x cs) : K3.M w' base ok x cs := h
def NewR (w : World) (l : List Int) (e : Ending) (w' : World) : Prop := ∃ v, e = .returned v ∧ K3.R 21 w' w.heap.size (fun _ => True) v l ∧ Below w.heap.size w w'
theorem lit1 {w : World} {B : Nat} (hB : B ≤ w.heap.size) (a : Int) : K3.R 21 (w.alloc (.cells #[.int .i32 a] 21)) B (fun _ => True) (.slice (some ⟨w.heap.size, 0, none⟩) 1 1) [a] := by
  refine ⟨fun _ _ => trivial, [.int .i32 a], ?_, Reps.one (show Kd.M K3 _ _ _ a [.int .i32 a] from rfl) (Reps.none _ _)⟩; have h2 := World.ownsRow_lit (base := B) (e := 21) (size := 1) w #[.int .i32 a] 1 hB (by decide) rfl; exact h2
set_option maxRecDepth 100000 in
set_option maxHeartbeats 1000000 in
theorem DecF : ∀ (k : Nat) (_ : k ≤ 4) (w : World) (_ : G w) (r : Int) (_ : -2147483648 ≤ r ∧ r ≤ 2147483647) (_ : okF k r = true), Calls Tryd.prog 57 #[.int .i32 r] w (NewR w (decF k r)) := by
  intro k
  induction k with
  | zero => intro hk4 w hG r hr ho; exact absurd ho (by simp [okF])
  | succ k ih =>
    intro hk4 w hG r hr ho; have HG := Aside0.mk hG; have HO := Aside0.mk ho; have HI := Aside0.mk (ih (by omega)); have HR := Aside0.mk hr; have HP := Aside0.mk (pair_range r); have HD := Aside0.mk (show decF (k + 1) r = if (pairU r).2.2 = 0 then [r] else if (pairU r).2.2 = 1 then decF k (pairU r).1 else decF k (pairU r).1 ++ decF k (pairU r).2.1 from rfl); have HO1 := Aside0.mk (show okF (k + 1) r = if (pairU r).2.2 = 0 then true else if (pairU r).2.2 = 1 then okF k (pairU r).1 else okF k (pairU r).1 && okF k (pairU r).2.1 from rfl); clear hG ho ih hr; have hPP := PairP w HG.out r HR.out; unfold PairPost at hPP; obtain ⟨⟨a, b, n⟩, hp⟩ : ∃ p, p = pairU r := ⟨_, rfl⟩; rw [← hp] at hPP HP HD HO1; have HPP := Aside0.mk hPP; clear hPP hp; simp only at HPP HP HD HO1; obtain ⟨HP⟩ := HP; obtain ⟨⟨a0, a1⟩, ⟨b0, b1⟩, n0, n1⟩ := HP; by_cases h0 : n = 0
    · subst h0; rw [HD.out, if_pos rfl]; clear HD HO1 HO; go_enter Tryd.func57, Tryd.ntmps57; go_wp2_with (first | (go_at_call 53; go_must (refine HPP.out.mono ?_; rintro e w1 ⟨rfl, p1⟩; have P1 := Aside0.mk p1; clear p1))); go_ret; exact ⟨_, rfl, lit1 P1.out.size r, below_then P1.out P1.out.size (below_alloc (Below.refl _ _) _)⟩
    · by_cases h1 : n = 1
      · subst h1; have e0 : ((1 : Int) == 0) = false := rfl; rw [HD.out, if_neg (by decide), if_pos rfl]; have HO2 := Aside0.mk (show okF k a = true by have h := HO1.out; rw [if_neg (by decide), if_pos rfl] at h; rw [← h]; exact HO.out); clear HD HO1 HO; go_enter Tryd.func57, Tryd.ntmps57; go_wp2_with (first | (go_at_call 53; go_must (refine HPP.out.mono ?_; rintro e w1 ⟨rfl, p1⟩; have P1 := Aside0.mk p1; clear p1)) | (go_at_call 57; go_must (refine (HI.out w1 (HG.out.below P1.out) a ⟨by omega, by omega⟩ HO2.out).mono ?_; rintro e w2 ⟨v2, rfl, r2, p2⟩; have R2 := Aside0.mk r2; have P2 := Aside0.mk p2; clear r2 p2))); go_ret; exact ⟨_, rfl, Kd.R_lower R2.out P1.out.size, below_then P1.out P1.out.size P2.out⟩
      · (have h2 : n = 2 := by omega); subst h2; rw [HD.out, if_neg (by decide), if_neg (by decide)]; have HO2 := Aside0.mk (show okF k a = true ∧ okF k b = true by have h := HO1.out; rw [if_neg (by decide), if_neg (by decide)] at h; rw [← Bool.and_eq_true, ← h]; exact HO.out); clear HD HO1 HO; have la := decF_len k a; have lb := decF_len k b; obtain ⟨x, hx⟩ : ∃ x, x = decF k a := ⟨_, rfl⟩; obtain ⟨y, hy⟩ : ∃ y, y = decF k b := ⟨_, rfl⟩; have HL := Aside0.mk (show x.length + y.length ≤ 1000 by rw [hx, hy]; have := Nat.pow_le_pow_right (n := 2) (by decide) (show k ≤ 4 by omega); omega); have HA := Aside0.mk (fun w2 h => HI.out w2 h a ⟨by omega, by omega⟩ HO2.out.1); have HB := Aside0.mk (fun w2 h => HI.out w2 h b ⟨by omega, by omega⟩ HO2.out.2); rw [← hx] at HA ⊢; rw [← hy] at HB ⊢; clear hx hy la lb; go_enter Tryd.func57, Tryd.ntmps57; go_wp2_with (first | (go_at_call 53; go_must (refine HPP.out.mono ?_; rintro e w1 ⟨rfl, p1⟩; have P1 := Aside0.mk p1; clear p1)) | (go_at_call 57; refine (HA.out w1 (HG.out.below P1.out)).mono ?_; rintro e w2 ⟨v2, rfl, r2, p2⟩; have R2 := Aside0.mk r2; have P2 := Aside0.mk (below_then P1.out P1.out.size p2); clear r2 p2 HA) | (go_at_call 57; go_must (refine (HB.out w2 (HG.out.below P2.out)).mono ?_; rintro e w3 ⟨v3, rfl, r3, p3⟩; obtain ⟨A3, c3, rfl, hc3, hC3⟩ := Kd.R_reads r3; have C3 := Aside0.mk hC3; have R3 := Aside0.mk (Kd.R_below (Kd.R_lower R2.out P1.out.size) p3); have P3 := Aside0.mk (below_then P2.out P2.out.size p3); clear r3 p3 hC3)) | (at_builtin; go_must (refine Kd.R_append_rows K3 (Rr := K3.K w3) (w0 := w) w.heap.size rfl (.tmp 22) (.tmp 24) 42 21 (.int .i32 0) 4 rfl Tryd.underlying42 info_3 rfl (by decide) (by decide) v2 x y A3 _ c3 (fun _ => True) (fun _ => False) rfl rfl R3.out C3.out (fun x cs h => K3_KM x cs h) (fun _ h => h.elim) (fun _ _ => trivial) P3.out P3.out.size ?hl ?hh)))
        case hl => have := HL.out; omega
        case hh =>
          intro v1 w4 hR hb4 hg4 hat4; have R4 := Aside0.mk hR; have P4 := Aside0.mk hb4; clear hR hb4 hg4 hat4; go_wp2; go_ret; exact ⟨_, rfl, R4.out, P4.out⟩
theorem DecP (w : World) (hG : G w) (r : Int) (hr : -2147483648 ≤ r ∧ r ≤ 2147483647) : Calls Tryd.prog 57 #[.int .i32 r] w (NewR w (decU r)) := DecF 4 (by decide) w hG r hr (okAll r)
end Go.Proofs.YthffpkdadffinaaDoor.Vd
namespace Go.Proofs.YthffpkdadffinaaDoor.X
set_option linter.unusedVariables false
set_option linter.unusedSimpArgs false
open Go.RowKit YthffpkdadffinaaDoorW.PrintWords
def ucd_Decompose.f (a0 : Int) : Option (List Int) := if -2147483648 ≤ a0 ∧ a0 ≤ 2147483647 then some (Vd.decU a0) else none
theorem ucd_Decompose.calls (a0 : Int) (r : List Int) (w : World) (h : ucd_Decompose.f a0 = some r) (hG0 : Va.G w) : Calls Tryd.prog 57 #[.int .i32 a0] w fun e w' => ∃ v0_ : Value, e = .returned (v0_) ∧ Kd.R (Kd.int .i32) 21 w' w.heap.size (fun _ => True) v0_ r ∧ Below w.heap.size w w' := by
  unfold ucd_Decompose.f at h; split at h
  · rename_i hr; obtain rfl := Option.some.inj h; exact Vd.DecP w hG0 a0 hr
  · cases h
end Go.Proofs.YthffpkdadffinaaDoor.X
namespace Go.Proofs.YthffpkdadffinaaDoor.Fr
set_option linter.unusedVariables false
set_option linter.unusedSimpArgs false
open Go.RowKit YthffpkdadffinaaDoorW.PrintWords YthffpkdadffinaaDoorW.PrintLast YthffpkdadffinaaDoorW.PrintMore Hp Va Vd Na Nb Nc Ns Ng X
abbrev T3 : Nat := 21
abbrev K3 : Kd Int := Kd.int .i32
def Row (w : World) (A : Option Addr) (c : Nat) (l : List Int) : Prop := (A = none ∧ l = [] ∧ c = 0) ∨ ∃ g post, A = some ⟨g, 0, none⟩ ∧ Reg w g [] post l ∧ l.length ≤ c ∧ c ≤ maxLen
theorem Row.C {w : World} {A : Option Addr} {c : Nat} {l : List Int} (h : Row w A c l) (hm : l.length ≤ 9223372036854775807) : K3.C w A l.length l := by
  refine rdC ⟨rfl, hm, fun hp => ?_⟩; rcases h with ⟨_, rfl, _⟩ | ⟨g, post, rfl, hR, _, _⟩
  · simp at hp
  · refine ⟨_, rfl, fun j hj => ?_⟩; have := hR.at_ j hj; rw [add_plain]
    simpa using this
section
variable {g base : Nat} {kept : List Int} {closed : Bool} {ok ok' : Nat → Prop} {w w1 : World}
end
theorem Row.of {w : World} {base : Nat} {ok : Nat → Prop} {v : Value} {xs : List Int} (h : K3.R T3 w base ok v xs) : ∃ A c, v = .slice A xs.length c ∧ xs.length ≤ c ∧ Row w A c xs ∧ ∀ ad, A = some ad → base ≤ ad.block ∧ ok ad.block := by
  rcases Reg.of_row (n := 0) (c := 0) h with ⟨rfl, n, rfl, rfl⟩ | ⟨g, cap, post, rfl, h1, h2, h3, h4, h5⟩
  · exact ⟨none, 0, rfl, Nat.zero_le _, .inl ⟨rfl, rfl, rfl⟩, fun _ h => by cases h⟩
  · exact ⟨_, _, rfl, h1, .inr ⟨g, post, rfl, h5, h1, h2⟩, fun ad had => by cases had; exact ⟨h4, h.1 g rfl⟩⟩
end Go.Proofs.YthffpkdadffinaaDoor.Fr
namespace Go.Proofs.YthffpkdadffinaaDoor.X
open Go.RowKit YthffpkdadffinaaDoorW.PrintWords YthffpkdadffinaaDoorW.PrintLast YthffpkdadffinaaDoorW.PrintMore
attribute [local go_sem] max2_int min2_int max_two min_two max_three min_three max_four min_four   
set_option linter.unusedVariables false
set_option linter.unusedSimpArgs false
def ucd_Trailing.f (a0 : Int) : Option (Bool) := if a0 ≥ 4449 then (if a0 ≤ 4469 then (some true) else (if a0 ≥ 4520 then (some (decide (a0 ≤ 4546))) else (some false))) else (if a0 ≥ 4520 then (some (decide (a0 ≤ 4546))) else (some false))
set_option maxHeartbeats 8000000 in
set_option maxRecDepth 100000 in
theorem ucd_Trailing.calls (a0 : Int) (r : Bool) (w : World) (h : ucd_Trailing.f a0 = some r) :
  Calls Tryd.prog 60 #[.int .i32 a0] w fun e w' => e = .returned (.bool r) ∧ Drawn0 w w' := by
 have H : (if a0 ≥ 4449 then (if a0 ≤ 4469 then (some true) else (if a0 ≥ 4520 then (some (decide (a0 ≤ 4546))) else (some false))) else (if a0 ≥ 4520 then (some (decide (a0 ≤ 4546))) else (some false))) = some r := h; clear h; by_cases c2 : a0 ≥ 4449
 ·rw [if_pos c2] at H; have c2b0 : decide (4449 ≤ a0) = true := decide_eq_true c2; clear c2; by_cases c3 : a0 ≤ 4469
  ·rw [if_pos c3] at H; have c3b0 : decide (a0 ≤ 4469) = true := decide_eq_true c3; clear c3; obtain rfl := Option.some.inj H; go_enter Tryd.func60, Tryd.ntmps60; go_wp2; go_ret; exact ⟨by first | rfl | (simp; done) | (simp [*]; done), by repeat (first | exact Drawn0.refl _ | apply Drawn0.step)⟩
  ·rw [if_neg c3] at H; have c3b0 : decide (a0 ≤ 4469) = false := decide_eq_false c3; clear c3; by_cases c4 : a0 ≥ 4520
   ·rw [if_pos c4] at H; have c4b0 : decide (4520 ≤ a0) = true := decide_eq_true c4; clear c4; obtain rfl := Option.some.inj H; go_enter Tryd.func60, Tryd.ntmps60; go_wp2; go_ret; exact ⟨by first | rfl | (simp; done) | (simp [*]; done), by repeat (first | exact Drawn0.refl _ | apply Drawn0.step)⟩
   ·rw [if_neg c4] at H; have c4b0 : decide (4520 ≤ a0) = false := decide_eq_false c4; clear c4; obtain rfl := Option.some.inj H; go_enter Tryd.func60, Tryd.ntmps60; go_wp2; go_ret; exact ⟨by first | rfl | (simp; done) | (simp [*]; done), by repeat (first | exact Drawn0.refl _ | apply Drawn0.step)⟩
 ·rw [if_neg c2] at H; have c2b0 : decide (4449 ≤ a0) = false := decide_eq_false c2; clear c2; by_cases c5 : a0 ≥ 4520
  ·rw [if_pos c5] at H; have c5b0 : decide (4520 ≤ a0) = true := decide_eq_true c5; clear c5; obtain rfl := Option.some.inj H; go_enter Tryd.func60, Tryd.ntmps60; go_wp2; go_ret; exact ⟨by first | rfl | (simp; done) | (simp [*]; done), by repeat (first | exact Drawn0.refl _ | apply Drawn0.step)⟩
  ·rw [if_neg c5] at H; have c5b0 : decide (4520 ≤ a0) = false := decide_eq_false c5; clear c5; obtain rfl := Option.some.inj H; go_enter Tryd.func60, Tryd.ntmps60; go_wp2; go_ret; exact ⟨by first | rfl | (simp; done) | (simp [*]; done), by repeat (first | exact Drawn0.refl _ | apply Drawn0.step)⟩
end Go.Proofs.YthffpkdadffinaaDoor.X
namespace Go.Proofs.YthffpkdadffinaaDoor.Ve
set_option linter.unusedVariables false
set_option linter.unusedSimpArgs false
open Go.RowKit YthffpkdadffinaaDoorW.PrintWords Hp Va Vc Vd X
def trl (r : Int) : Bool := decide (4449 ≤ r ∧ r ≤ 4469 ∨ 4520 ≤ r ∧ r ≤ 4546)
theorem trl_pure (r : Int) : ucd_Trailing.f r = some (trl r) := by
  unfold ucd_Trailing.f trl; split
  · split
    · congr 1; symm; rw [decide_eq_true_eq]; omega
    · split
      · congr 1; rw [decide_eq_decide]; omega
      · congr 1; symm; rw [decide_eq_false_iff_not]; omega
  · split
    · congr 1; rw [decide_eq_decide]; omega
    · congr 1; symm; rw [decide_eq_false_iff_not]; omega
theorem TrailP (w : World) (r : Int) : Calls Tryd.prog 60 #[.int .i32 r] w fun e w' => e = .returned (.bool (trl r)) ∧ Below w.heap.size w w' :=
  (ucd_Trailing.calls r (trl r) w (trl_pure r)).mono fun _ _ h => ⟨h.1, h.2.below⟩
theorem decF_ne : ∀ (k : Nat) (r : Int), decF k r ≠ []
  | 0, _ => by simp [decF]
  | k + 1, r => by
    have := decF_ne k (pairU r).1; rw [decF]; split
    · simp
    · split
      · exact this
      · simp [this]
def opn (r : Int) : Bool := (cls ((decU r).getD 0 0) == 0) && !trl ((decU r).getD 0 0)
theorem intC {w : World} {A : Option Addr} {n : Nat} {xs : List Int} (h : K3.C w A n xs) (j : Nat) (hj : j < n) : ∃ ad, A = some ad ∧ w.cell? (ad.add j) = some (.int .i32 (xs.getD j 0)) := by
  have h1 := (rdint h).2.2 (by omega); obtain ⟨ad, h2, h3⟩ := h1; exact ⟨ad, h2, h3 j hj⟩
theorem intC0 {w : World} {A : Option Addr} {n : Nat} {xs : List Int} (h : K3.C w A n xs) (hn : 0 < n) : ∃ ad, A = some ad ∧ w.cell? ad = some (.int .i32 (xs.getD 0 0)) := by
  obtain ⟨ad, h2, h3⟩ := intC h 0 hn; exact ⟨ad, h2, h3⟩
set_option maxRecDepth 100000 in
set_option maxHeartbeats 1000000 in
theorem OpensP (w : World) (hG : G w) (r : Int) (hr : -2147483648 ≤ r ∧ r ≤ 2147483647) : Calls Tryd.prog 59 #[.int .i32 r] w fun e w' => e = .returned (.bool (opn r)) ∧ Below w.heap.size w w' := by
  have HG := Aside0.mk hG; have HD := Aside0.mk (DecP w hG r hr); have HNE := Aside0.mk (decF_ne 4 r); have HO := Aside0.mk (show opn r = ((cls ((decU r).getD 0 0) == 0) && !trl ((decU r).getD 0 0)) from rfl); clear hG hr; obtain ⟨l, hl⟩ : ∃ l, l = decU r := ⟨_, rfl⟩; rw [show decF 4 r = decU r from rfl, ← hl] at HNE; rw [← hl] at HD HO; clear hl; obtain ⟨n, hn⟩ : ∃ n, n = l.length := ⟨_, rfl⟩; (have hn0 : 0 < n := by rw [hn]; exact List.length_pos_iff.2 HNE.out); obtain ⟨x, hx⟩ : ∃ x, x = l.getD 0 0 := ⟨_, rfl⟩; rw [← hx] at HO; have HN := Aside0.mk hn; have HX := Aside0.mk hx; clear hn hx
  cases hc : (cls x == 0) with
  | true =>
    rw [hc, Bool.true_and] at HO; go_enter Tryd.func59, Tryd.ntmps59; go_wp2_with (first | (go_at_call 57; go_must (refine HD.out.mono ?_; rintro e w1 ⟨v1, rfl, r1, p1⟩; obtain ⟨A1, c1, rfl, hc1, hC1⟩ := Kd.R_reads r1; have HB := Aside0.mk p1; rw [← HN.out] at hC1 ⊢; obtain ⟨ad, rfl, cell⟩ := intC0 hC1 hn0; rw [← HX.out] at cell; clear r1 p1 hC1 hc1)) | (go_at_call 55; go_must (refine (ClassP w1 (HG.out.below HB.out) x).mono ?_; rintro e w2 ⟨rfl, p2⟩; have HB2 := Aside0.mk (below_then HB.out HB.out.size p2); clear p2)) | (go_at_call 60; go_must (refine (TrailP w2 x).mono ?_; rintro e w3 ⟨rfl, p3⟩; have HB3 := Aside0.mk (below_then HB2.out HB2.out.size p3); clear p3))); go_ret; exact ⟨by rw [HO.out]; rfl, HB3.out⟩
  | false =>
    rw [hc, Bool.false_and] at HO; go_enter Tryd.func59, Tryd.ntmps59; go_wp2_with (first | (go_at_call 57; go_must (refine HD.out.mono ?_; rintro e w1 ⟨v1, rfl, r1, p1⟩; obtain ⟨A1, c1, rfl, hc1, hC1⟩ := Kd.R_reads r1; have HB := Aside0.mk p1; rw [← HN.out] at hC1 ⊢; obtain ⟨ad, rfl, cell⟩ := intC0 hC1 hn0; rw [← HX.out] at cell; clear r1 p1 hC1 hc1)) | (go_at_call 55; go_must (refine (ClassP w1 (HG.out.below HB.out) x).mono ?_; rintro e w2 ⟨rfl, p2⟩; have HB2 := Aside0.mk (below_then HB.out HB.out.size p2); clear p2))); go_ret; exact ⟨by rw [HO.out]; rfl, HB2.out⟩
end Go.Proofs.YthffpkdadffinaaDoor.Ve
namespace Go.Proofs.YthffpkdadffinaaDoor.X
set_option linter.unusedVariables false
set_option linter.unusedSimpArgs false
open Go.RowKit YthffpkdadffinaaDoorW.PrintWords
def ucd_Opens.f (a0 : Int) : Option Bool := if -2147483648 ≤ a0 ∧ a0 ≤ 2147483647 then some (Ve.opn a0) else none
theorem ucd_Opens.calls (a0 : Int) (r : Bool) (w : World) (h : ucd_Opens.f a0 = some r) (hG0 : Va.G w) : Calls Tryd.prog 59 #[.int .i32 a0] w fun e w' => e = .returned (.bool r) ∧ Below w.heap.size w w' := by
  unfold ucd_Opens.f at h; split at h
  · rename_i hr; obtain rfl := Option.some.inj h; exact Ve.OpensP w hG0 a0 hr
  · cases h
end Go.Proofs.YthffpkdadffinaaDoor.X
namespace Go.Proofs.YthffpkdadffinaaDoor.Ev0
set_option linter.unusedVariables false
set_option linter.unusedSimpArgs false
open Go.RowKit YthffpkdadffinaaDoorW.PrintWords
theorem w64 {i : Nat} (h : i < 4611686018427387904) : wrap64 ((i : Int) + 1) = ((i + 1 : Nat) : Int) := by unfold wrap64; omega
theorem rd_nat {l : List Int} {i : Nat} (h : i < l.length) : rd l (i : Int) = l[i] := by simp [rd, List.getD_eq_getElem?_getD, List.getElem?_eq_getElem h]
theorem ev_range {α : Type} {F : Nat → Int → Option α} {n : Nat} {r : α} (hend : Ev (fun k => F k (n : Int)) r) (hstep : ∀ i : Nat, i < n → Ev (fun k => F k ((i + 1 : Nat) : Int)) r → Ev (fun k => F k (i : Int)) r) : ∀ i : Nat, i ≤ n → Ev (fun k => F k (i : Int)) r := by
  have key : ∀ d i : Nat, i + d = n → Ev (fun k => F k (i : Int)) r := by
    intro d
    induction d with
    | zero => intro i h; obtain rfl : i = n := by omega
              exact hend
    | succ d ih => intro i h; exact hstep i (by omega) (ih (i + 1) (by omega))
  intro i h; exact key (n - i) i (by omega)
end Go.Proofs.YthffpkdadffinaaDoor.Ev0
namespace Go.Proofs.YthffpkdadffinaaDoor.Vp0
set_option linter.unusedVariables false
set_option linter.unusedSimpArgs false
open Go.RowKit YthffpkdadffinaaDoorW.PrintWords Ev0 X Va Vc Vd Ve
def I32 (x : Int) : Prop := -2147483648 ≤ x ∧ x ≤ 2147483647
theorem dec_zero (r : Int) (h : pairU r = (0, 0, 0)) : decU r = [r] := decF_zero 4 r h
theorem opn_zero (r : Int) (h : pairU r = (0, 0, 0)) : opn r = ((cls r == 0) && !trl r) := by unfold opn; rw [dec_zero r h]; rfl
def botB (r : Int) : Bool := decide (1 ≤ (decU r).length ∧ (decU r).length ≤ 3) && (decU r).all (fun x => decide ((pairU x) = (0, 0, 0)) && decide (0 ≤ x ∧ x < 65536)) && ((decU r).drop 1).all (fun x => !opn x)
theorem bot_keys : ∀ r ∈ keys, botB r = true := by decide +kernel
theorem jamo_shut (r : Int) (h : 4449 ≤ r ∧ r ≤ 4469 ∨ 4520 ≤ r ∧ r ≤ 4546) : opn r = false := by
  rw [opn_zero r (jamo_zero r (by omega))]; (have : trl r = true := by unfold trl; exact decide_eq_true h); rw [this]; simp
theorem syl_dec (s : Nat) (hs : s ≤ 11171) : decU (44032 + (s : Int)) = [4352 + ((s / 588 : Nat) : Int), 4449 + ((s % 588 / 28 : Nat) : Int)] ++ if s % 28 = 0 then [] else [4519 + ((s % 28 : Nat) : Int)] := (syl_all s hs 2).2
structure Bot (r : Int) : Prop where
  lo : 1 ≤ (decU r).length
  hi : (decU r).length ≤ 3
  zero : ∀ x ∈ decU r, pairU x = (0, 0, 0)
  rng : ∀ x ∈ decU r, I32 x
  shut : ∀ x ∈ (decU r).drop 1, opn x = false
theorem bottom (r : Int) (hr : I32 r) : Bot r := by
  rcases cases3 r with h | ⟨s, hs, rfl⟩ | h
  · have := bot_keys r h; simp only [botB, Bool.and_eq_true, decide_eq_true_eq, List.all_eq_true, Bool.not_eq_true'] at this; obtain ⟨⟨⟨h1, h2⟩, h3⟩, h4⟩ := this; exact ⟨h1, h2, fun x hx => (h3 x hx).1, fun x hx => by have := (h3 x hx).2; unfold I32; omega, h4⟩
  · have hd := syl_dec s hs; have z1 := jamo_zero (4352 + ((s / 588 : Nat) : Int)) (by omega); have z2 := jamo_zero (4449 + ((s % 588 / 28 : Nat) : Int)) (by omega); have z3 := jamo_zero (4519 + ((s % 28 : Nat) : Int)) (by omega); by_cases ht : s % 28 = 0
    · rw [if_pos ht, List.append_nil] at hd; refine ⟨by rw [hd]; simp, by rw [hd]; simp, ?_, ?_, ?_⟩
      · rw [hd]; intro x hx; simp at hx; rcases hx with rfl | rfl; exact z1; exact z2
      · rw [hd]; intro x hx; simp at hx; unfold I32; rcases hx with rfl | rfl <;> omega
      · rw [hd]; intro x hx; simp at hx; subst hx; exact jamo_shut _ (by omega)
    · rw [if_neg ht] at hd; refine ⟨by rw [hd]; simp, by rw [hd]; simp, ?_, ?_, ?_⟩
      · rw [hd]; intro x hx; simp at hx; rcases hx with rfl | rfl | rfl; exact z1; exact z2; exact z3
      · rw [hd]; intro x hx; simp at hx; unfold I32; rcases hx with rfl | rfl | rfl <;> omega
      · rw [hd]; intro x hx; simp at hx; rcases hx with rfl | rfl <;> exact jamo_shut _ (by omega)
  · have hd := dec_zero r h; refine ⟨by rw [hd]; simp, by rw [hd]; simp, ?_, ?_, ?_⟩
    · rw [hd]; intro x hx; simp at hx; subst hx; exact h
    · rw [hd]; intro x hx; simp at hx; subst hx; exact hr
    · rw [hd]; simp
theorem opn_first (r : Int) (hr : I32 r) : opn ((decU r).getD 0 0) = opn r := by
  have hb := bottom r hr
  have hm : (decU r).getD 0 0 ∈ decU r := by
    have := hb.lo; rw [List.getD_eq_getElem?_getD, List.getElem?_eq_getElem (by omega)]; exact List.getElem_mem _
  rw [opn_zero _ (hb.zero _ hm)]
  rfl
end Go.Proofs.YthffpkdadffinaaDoor.Vp0
namespace Go.Proofs.YthffpkdadffinaaDoor.X
open Go.RowKit YthffpkdadffinaaDoorW.PrintWords YthffpkdadffinaaDoorW.PrintLast YthffpkdadffinaaDoorW.PrintMore
attribute [local go_sem] max2_int min2_int max_two min_two max_three min_three max_four min_four   
set_option linter.unusedVariables false
set_option linter.unusedSimpArgs false
def tremaref02_in.f (a0 : Int) (a1 : Int) (a2 : Int) : Option (Bool) := if a1 ≤ a0 then (some (decide (a0 ≤ a2))) else (some false)
set_option maxHeartbeats 8000000 in
set_option maxRecDepth 100000 in
theorem tremaref02_in.calls (a0 : Int) (a1 : Int) (a2 : Int) (r : Bool) (w : World) (h : tremaref02_in.f a0 a1 a2 = some r) :
  Calls Tryd.prog 88 #[.int .i32 a0, .int .i32 a1, .int .i32 a2] w fun e w' => e = .returned (.bool r) ∧ Drawn0 w w' := by
 have H : (if a1 ≤ a0 then (some (decide (a0 ≤ a2))) else (some false)) = some r := h; clear h; by_cases c4 : a1 ≤ a0
 ·rw [if_pos c4] at H; have c4b0 : decide (a1 ≤ a0) = true := decide_eq_true c4; clear c4; obtain rfl := Option.some.inj H; go_enter Tryd.func88, Tryd.ntmps88; go_wp2; go_ret; exact ⟨by first | rfl | (simp; done) | (simp [*]; done), by repeat (first | exact Drawn0.refl _ | apply Drawn0.step)⟩
 ·rw [if_neg c4] at H; have c4b0 : decide (a1 ≤ a0) = false := decide_eq_false c4; clear c4; obtain rfl := Option.some.inj H; go_enter Tryd.func88, Tryd.ntmps88; go_wp2; go_ret; exact ⟨by first | rfl | (simp; done) | (simp [*]; done), by repeat (first | exact Drawn0.refl _ | apply Drawn0.step)⟩
end Go.Proofs.YthffpkdadffinaaDoor.X
namespace Go.Proofs.YthffpkdadffinaaDoor.Vin
set_option linter.unusedVariables false
set_option linter.unusedSimpArgs false
open Go.RowKit YthffpkdadffinaaDoorW.PrintWords Hp X
def inB (r lo hi : Int) : Bool := decide (lo ≤ r) && decide (r ≤ hi)
theorem in_some (r lo hi : Int) : tremaref02_in.f r lo hi = some (inB r lo hi) := by
  unfold tremaref02_in.f inB; by_cases h : lo ≤ r
  · rw [if_pos h, decide_eq_true h]; simp
  · rw [if_neg h, decide_eq_false h]; rfl
theorem InQ {w w0 : World} (r lo hi : Int) (h : Drawn0 w w0) : Calls Tryd.prog 88 #[.int .i32 r, .int .i32 lo, .int .i32 hi] w0 fun e w' => e = .returned (.bool (inB r lo hi)) ∧ Drawn0 w w' :=
  (tremaref02_in.calls r lo hi _ w0 (in_some r lo hi)).mono fun _ _ ⟨h1, h2⟩ => ⟨h1, by obtain ⟨n, rfl⟩ := h2.out; exact h.step n⟩
def anyIn (r : Int) : List (Int × Int) → Bool
  | [] => false
  | p :: t => inB r p.1 p.2 || anyIn r t
def refG (r d : Int) : List (List (Int × Int) × Int) → Int
  | [] => d
  | q :: t => if anyIn r q.1 = true then q.2 else refG r d t
def AlikeB (B : List Int) (r x : Int) : Prop := ∀ b ∈ B, (b ≤ r ↔ b ≤ x)
theorem inB_of {r x lo hi : Int} (h1 : lo ≤ r ↔ lo ≤ x) (h2 : hi + 1 ≤ r ↔ hi + 1 ≤ x) : inB r lo hi = inB x lo hi := by
  unfold inB; congr 1
  · rw [decide_eq_decide]; omega
  · rw [decide_eq_decide]; omega
theorem anyIn_of {B : List Int} {r x : Int} (h : AlikeB B r x) : ∀ l : List (Int × Int), (∀ p ∈ l, p.1 ∈ B ∧ p.2 + 1 ∈ B) → anyIn r l = anyIn x l
  | [], _ => rfl
  | p :: t, hl => by
    have h1 := hl p (List.mem_cons_self ..); rw [anyIn, anyIn, inB_of (h _ h1.1) (h _ h1.2), anyIn_of h t fun q hq => hl q (List.mem_cons_of_mem _ hq)]
theorem refG_of {B : List Int} {r x : Int} (h : AlikeB B r x) (d : Int) : ∀ t : List (List (Int × Int) × Int), (∀ q ∈ t, ∀ p ∈ q.1, p.1 ∈ B ∧ p.2 + 1 ∈ B) → refG r d t = refG x d t
  | [], _ => rfl
  | q :: t, hl => by rw [refG, refG, anyIn_of h q.1 (hl q (List.mem_cons_self ..)), refG_of h d t fun q hq => hl q (List.mem_cons_of_mem _ hq)]
theorem rep0 (m r : Int) : ∀ B : List Int, (∀ b ∈ B, m < b) → ∃ x, x ∈ m :: B ∧ (∀ b ∈ B, (b ≤ r ↔ b ≤ x)) ∧ (x = m ∨ x ≤ r)
  | [], _ => ⟨m, List.mem_cons_self .., by simp, .inl rfl⟩
  | b :: B, h => by
    obtain ⟨x, h1, h2, h3⟩ := rep0 m r B (fun c hc => h c (List.mem_cons_of_mem _ hc)); have hb := h b (List.mem_cons_self ..); by_cases c1 : b ≤ r
    · by_cases c2 : x < b
      · refine ⟨b, by simp, fun c hc => ?_, .inr c1⟩; rcases List.mem_cons.1 hc with rfl | hc
        · exact ⟨fun _ => Int.le_refl _, fun _ => c1⟩
        · have := h2 c hc; omega
      · refine ⟨x, ?_, fun c hc => ?_, h3⟩
        · rcases List.mem_cons.1 h1 with rfl | h1 <;> simp [*]
        · rcases List.mem_cons.1 hc with rfl | hc
          · omega
          · exact h2 c hc
    · refine ⟨x, ?_, fun c hc => ?_, h3⟩
      · rcases List.mem_cons.1 h1 with rfl | h1 <;> simp [*]
      · rcases List.mem_cons.1 hc with rfl | hc
        · omega
        · exact h2 c hc
theorem rep (B : List Int) (r : Int) (h : ∀ b ∈ B, -1 < b) : ∃ x, x ∈ -1 :: B ∧ AlikeB B r x := by
  obtain ⟨x, h1, h2, -⟩ := rep0 (-1) r B h; exact ⟨x, h1, h2⟩
end Go.Proofs.YthffpkdadffinaaDoor.Vin
namespace Go.Proofs.YthffpkdadffinaaDoor.Vci
set_option linter.unusedVariables false
set_option linter.unusedSimpArgs false
open Go.RowKit YthffpkdadffinaaDoorW.PrintWords Hp X Vin
def g0 : List (Int × Int) := [(768, 788), (829, 836), (838, 838), (842, 844), (848, 850), (855, 855), (8400, 8401)]
def g1 : List (Int × Int) := [(789, 789), (794, 794)]
def g2 : List (Int × Int) := [(790, 793), (796, 800), (803, 806), (809, 819), (825, 828), (839, 841), (845, 846), (851, 854)]
def g3 : List (Int × Int) := [(795, 795)]
def g4 : List (Int × Int) := [(801, 802), (807, 808)]
def g5 : List (Int × Int) := [(820, 824)]
def g6 : List (Int × Int) := [(837, 837)]
def g7 : List (Int × Int) := [(12441, 12442)]
def refT : List (List (Int × Int) × Int) := [(g0, 230), (g1, 232), (g2, 220), (g3, 216), (g4, 202), (g5, 1), (g6, 240), (g7, 8)]
def refC (r : Int) : Int := refG r 0 refT
set_option maxRecDepth 100000 in
set_option maxHeartbeats 16000000 in
theorem refC_walk (w : World) (r : Int) : Calls Tryd.prog 78 #[.int .i32 r] w fun e w' => e = .returned (.int .i64 (refC r)) ∧ Drawn0 w w' := by
  have HB := Aside0.mk (Drawn0.refl w); go_enter Tryd.func78, Tryd.ntmps78; go_upto_if 3 with (go_at_call 88; go_must (refine (InQ r _ _ HB.out).mono ?_; clear HB; rintro E w1 ⟨rfl, p1⟩; have HB := Aside0.mk p1; clear p1)); go_cut [3] (fun vq wq => vq = .bool (anyIn r g0) ∧ Aside0 (Drawn0 w wq))
  case first =>
    go_wp2_with (go_at_call 88; go_must (refine (InQ r _ _ HB.out).mono ?_; clear HB; rintro E w1 ⟨rfl, p1⟩; have HB := Aside0.mk p1; clear p1)); all_goals (go_meet; case rel => exact ⟨by simp [anyIn, g0, *], HB⟩)
  case rest =>
    obtain ⟨rfl, HB⟩ := hcut
    cases c0 : anyIn r g0 with
    | true =>
      have HV := Aside0.mk (show refC r = 230 by simp only [refC, refT, refG, c0, Bool.false_eq_true, if_false, if_true]); go_wp2; go_ret; exact ⟨by rw [HV.out]; rfl, HB.out⟩
    | false =>
      go_upto_if 20 with (go_at_call 88; go_must (refine (InQ r _ _ HB.out).mono ?_; clear HB; rintro E w1 ⟨rfl, p1⟩; have HB := Aside0.mk p1; clear p1)); go_cut [20] (fun vq wq => vq = .bool (anyIn r g1) ∧ Aside0 (Drawn0 w wq))
      case first =>
        go_wp2_with (go_at_call 88; go_must (refine (InQ r _ _ HB.out).mono ?_; clear HB; rintro E w1 ⟨rfl, p1⟩; have HB := Aside0.mk p1; clear p1)); all_goals (go_meet; case rel => exact ⟨by simp [anyIn, g1, *], HB⟩)
      case rest =>
        obtain ⟨rfl, HB⟩ := hcut
        cases c1 : anyIn r g1 with
        | true =>
          have HV := Aside0.mk (show refC r = 232 by simp only [refC, refT, refG, c0, c1, Bool.false_eq_true, if_false, if_true]); go_wp2; go_ret; exact ⟨by rw [HV.out]; rfl, HB.out⟩
        | false =>
          go_upto_if 25 with (go_at_call 88; go_must (refine (InQ r _ _ HB.out).mono ?_; clear HB; rintro E w1 ⟨rfl, p1⟩; have HB := Aside0.mk p1; clear p1)); go_cut [25] (fun vq wq => vq = .bool (anyIn r g2) ∧ Aside0 (Drawn0 w wq))
          case first =>
            go_wp2_with (go_at_call 88; go_must (refine (InQ r _ _ HB.out).mono ?_; clear HB; rintro E w1 ⟨rfl, p1⟩; have HB := Aside0.mk p1; clear p1)); all_goals (go_meet; case rel => exact ⟨by simp [anyIn, g2, *], HB⟩)
          case rest =>
            obtain ⟨rfl, HB⟩ := hcut
            cases c2 : anyIn r g2 with
            | true =>
              have HV := Aside0.mk (show refC r = 220 by simp only [refC, refT, refG, c0, c1, c2, Bool.false_eq_true, if_false, if_true]); go_wp2; go_ret; exact ⟨by rw [HV.out]; rfl, HB.out⟩
            | false =>
              go_upto_region 19 with (fail); go_cut [44] (fun vq wq => vq = .bool (anyIn r g3) ∧ Aside0 (Drawn0 w wq))
              case first =>
                go_wp2_with (go_at_call 88; go_must (refine (InQ r _ _ HB.out).mono ?_; clear HB; rintro E w1 ⟨rfl, p1⟩; have HB := Aside0.mk p1; clear p1)); all_goals (go_meet; case rel => exact ⟨by simp [anyIn, g3, *], HB⟩)
              case rest =>
                obtain ⟨rfl, HB⟩ := hcut
                cases c3 : anyIn r g3 with
                | true =>
                  have HV := Aside0.mk (show refC r = 216 by simp only [refC, refT, refG, c0, c1, c2, c3, Bool.false_eq_true, if_false, if_true]); go_wp2; go_ret; exact ⟨by rw [HV.out]; rfl, HB.out⟩
                | false =>
                  go_upto_if 47 with (go_at_call 88; go_must (refine (InQ r _ _ HB.out).mono ?_; clear HB; rintro E w1 ⟨rfl, p1⟩; have HB := Aside0.mk p1; clear p1)); go_cut [47] (fun vq wq => vq = .bool (anyIn r g4) ∧ Aside0 (Drawn0 w wq))
                  case first =>
                    go_wp2_with (go_at_call 88; go_must (refine (InQ r _ _ HB.out).mono ?_; clear HB; rintro E w1 ⟨rfl, p1⟩; have HB := Aside0.mk p1; clear p1)); all_goals (go_meet; case rel => exact ⟨by simp [anyIn, g4, *], HB⟩)
                  case rest =>
                    obtain ⟨rfl, HB⟩ := hcut
                    cases c4 : anyIn r g4 with
                    | true =>
                      have HV := Aside0.mk (show refC r = 202 by simp only [refC, refT, refG, c0, c1, c2, c3, c4, Bool.false_eq_true, if_false, if_true]); go_wp2; go_ret; exact ⟨by rw [HV.out]; rfl, HB.out⟩
                    | false =>
                      go_upto_region 24 with (fail); go_cut [52] (fun vq wq => vq = .bool (anyIn r g5) ∧ Aside0 (Drawn0 w wq))
                      case first =>
                        go_wp2_with (go_at_call 88; go_must (refine (InQ r _ _ HB.out).mono ?_; clear HB; rintro E w1 ⟨rfl, p1⟩; have HB := Aside0.mk p1; clear p1)); all_goals (go_meet; case rel => exact ⟨by simp [anyIn, g5, *], HB⟩)
                      case rest =>
                        obtain ⟨rfl, HB⟩ := hcut
                        cases c5 : anyIn r g5 with
                        | true =>
                          have HV := Aside0.mk (show refC r = 1 by simp only [refC, refT, refG, c0, c1, c2, c3, c4, c5, Bool.false_eq_true, if_false, if_true]); go_wp2; go_ret; exact ⟨by rw [HV.out]; rfl, HB.out⟩
                        | false =>
                          go_upto_region 26 with (fail); go_cut [55] (fun vq wq => vq = .bool (anyIn r g6) ∧ Aside0 (Drawn0 w wq))
                          case first =>
                            go_wp2_with (go_at_call 88; go_must (refine (InQ r _ _ HB.out).mono ?_; clear HB; rintro E w1 ⟨rfl, p1⟩; have HB := Aside0.mk p1; clear p1)); all_goals (go_meet; case rel => exact ⟨by simp [anyIn, g6, *], HB⟩)
                          case rest =>
                            obtain ⟨rfl, HB⟩ := hcut
                            cases c6 : anyIn r g6 with
                            | true =>
                              have HV := Aside0.mk (show refC r = 240 by simp only [refC, refT, refG, c0, c1, c2, c3, c4, c5, c6, Bool.false_eq_true, if_false, if_true]); go_wp2; go_ret; exact ⟨by rw [HV.out]; rfl, HB.out⟩
                            | false =>
                              go_upto_region 28 with (fail); go_cut [58] (fun vq wq => vq = .bool (anyIn r g7) ∧ Aside0 (Drawn0 w wq))
                              case first =>
                                go_wp2_with (go_at_call 88; go_must (refine (InQ r _ _ HB.out).mono ?_; clear HB; rintro E w1 ⟨rfl, p1⟩; have HB := Aside0.mk p1; clear p1)); all_goals (go_meet; case rel => exact ⟨by simp [anyIn, g7, *], HB⟩)
                              case rest =>
                                obtain ⟨rfl, HB⟩ := hcut
                                cases c7 : anyIn r g7 with
                                | true =>
                                  have HV := Aside0.mk (show refC r = 8 by simp only [refC, refT, refG, c0, c1, c2, c3, c4, c5, c6, c7, Bool.false_eq_true, if_false, if_true]); go_wp2; go_ret; exact ⟨by rw [HV.out]; rfl, HB.out⟩
                                | false =>
                                  have HV := Aside0.mk (show refC r = 0 by simp only [refC, refT, refG, c0, c1, c2, c3, c4, c5, c6, c7, Bool.false_eq_true, if_false]); go_wp2; go_ret; exact ⟨by rw [HV.out]; rfl, HB.out⟩
end Go.Proofs.YthffpkdadffinaaDoor.Vci
namespace Go.Proofs.YthffpkdadffinaaDoor.Vcx
set_option linter.unusedVariables false
set_option linter.unusedSimpArgs false
open Go.RowKit YthffpkdadffinaaDoorW.PrintWords Va Vin Vci
def clsB : List Int := refT.flatMap fun q => q.1.flatMap fun p => [p.1, p.2 + 1]
theorem clsF_of {r x : Int} (hx : AlikeB clsB r x) : ∀ l : List (Int × Int × Int), (∀ p ∈ l, p.1 ∈ clsB ∧ p.2.1 + 1 ∈ clsB) → clsF r l = clsF x l
  | [], _ => rfl
  | p :: t, h => by
    have h1 := h p (List.mem_cons_self ..); have a1 := hx _ h1.1; have a2 := hx _ h1.2; rw [clsF, clsF, clsF_of hx t (fun q hq => h q (List.mem_cons_of_mem _ hq))]; by_cases c : p.1 ≤ r ∧ r ≤ p.2.1
    · rw [if_pos c, if_pos (by omega)]
    · rw [if_neg c, if_neg (by omega)]
theorem cls_at : ∀ x ∈ -1 :: clsB, refC x = cls x := by decide +kernel
theorem refC_cls (r : Int) : refC r = cls r := by
  obtain ⟨x, hx1, hx⟩ := rep clsB r (by decide +kernel); have hc : cls r = cls x := clsF_of hx clsT (by decide +kernel); rw [hc, ← cls_at x hx1]; exact refG_of hx _ refT (by decide +kernel)
end Go.Proofs.YthffpkdadffinaaDoor.Vcx
namespace Go.Proofs.YthffpkdadffinaaDoor.X
set_option linter.unusedVariables false
set_option linter.unusedSimpArgs false
open Go.RowKit YthffpkdadffinaaDoorW.PrintWords
def tremaref02_Class.f (_ : Nat) (a0 : Int) : Option Int := some (Va.cls a0)
theorem tremaref02_Class.mono : ∀ a0 k, LeO (tremaref02_Class.f k a0) (tremaref02_Class.f (k + 1) a0) := fun _ _ _ h => h
theorem tremaref02_Class.calls (k : Nat) (a0 : Int) (r : Int) (w : World) (h : tremaref02_Class.f k a0 = some r) : Calls Tryd.prog 78 #[.int .i32 a0] w fun e w' => e = .returned (.int .i64 r) ∧ Drawn0 w w' := by
  have h2 := Vci.refC_walk w a0; rw [Vcx.refC_cls, Option.some.inj h] at h2; exact h2
end Go.Proofs.YthffpkdadffinaaDoor.X
namespace Go.Proofs.YthffpkdadffinaaDoor.Vr
set_option linter.unusedVariables false
set_option linter.unusedSimpArgs false
open Go.RowKit YthffpkdadffinaaDoorW.PrintWords Ev0 X Va Vc Vd Ve Vp0
theorem refcls (r : Int) : tremaref02_Class.f 30 r = some (cls r) := rfl
theorem clsEv (r : Int) : Ev (fun k => tremaref02_Class.f k r) (cls r) := Ev.of (tremaref02_Class.mono r) (refcls r)
end Go.Proofs.YthffpkdadffinaaDoor.Vr
