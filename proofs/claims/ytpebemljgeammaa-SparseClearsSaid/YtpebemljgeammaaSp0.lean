/-
  A sparse set in memory, and the plain facts on it.
-/
import Derived.Test.YtpebemljgeammaaHp
namespace Go.Proofs.Ytpebemljgeammaa.Sp0
set_option linter.unusedVariables false
set_option linter.unusedSimpArgs false
open Go.RowKit Go.Proofs.YtpebemljgeammaaW.PrintWords Go.Proofs.Ytpebemljgeammaa.Hp

/-- a set at block g: N places, xs in order -/
structure SetAt (w : World) (base g gw : Nat) (ov : Value) (ws : Array Value) (T e : TypeId) (k : IntKind) (N : Nat) (xs : List Int) : Prop where
  hg : w.heap[g]? = some (.cells #[.slice (some ⟨gw, 0, none⟩) N N, ov] T (0, 0))
  hw : w.heap[gw]? = some (.cells ws 3 (0, 0))
  ho : w.ownsRow base e 1 ov xs.length (nums k xs)
  bg : base ≤ g
  bw : base ≤ gw
  ne : g ≠ gw
  og : ov.ownBlock ≠ some g
  ow : ov.ownBlock ≠ some gw
  sz : ws.size = N
  hN : N ≤ 65536
  hx : ∀ x, x ∈ xs → 0 ≤ x ∧ x < N
  nd : xs.Nodup
  hv : ∀ j, j < N → ∃ i : Nat, ws[j]? = some (.int .i64 i) ∧ i ≤ 65536 ∧ (∀ m : Nat, xs[m]? = some (j : Int) → i = m)

theorem SetAt.slice {w : World} {base g gw : Nat} {ov : Value} {ws : Array Value} {T e : TypeId} {k : IntKind} {N : Nat} {xs : List Int}
    (h : SetAt w base g gw ov ws T e k N xs) : ∃ A c, ov = .slice A xs.length c ∧ xs.length ≤ 9223372036854775807 ∧ (∀ j, j < xs.length → ∃ ad, A = some ad ∧ w.cell? (ad.add j) = some (.int k (xs.getD j 0))) := by
  have hl := h.ho.1
  rcases h.ho.2 with ⟨rfl, hn⟩ | ⟨go, cap, cur, rfl, hb, hh, h1, h2, h3, h4⟩
  · exact ⟨none, 0, by rw [hn], by omega, fun j hj => by omega⟩
  · refine ⟨_, cap, rfl, by simp only [maxLen] at h2; omega, fun j hj => ⟨_, rfl, ?_⟩⟩
    exact h.ho.cells (g := go) rfl j (.int k (xs.getD j 0)) (by simp [nums, List.getElem?_eq_getElem hj, List.getD_eq_getElem?_getD])

theorem mem_idx {xs : List Int} {v : Int} {i N : Nat} (hlt : v < N) (h0 : 0 ≤ v) (hiv : ∀ m : Nat, xs[m]? = some ((v.toNat : Nat) : Int) → i = m) : decide (v ∈ xs) = (decide (i < xs.length) && (xs.getD i 0 == v)) := by
  rw [Bool.eq_iff_iff]
  simp only [decide_eq_true_eq, Bool.and_eq_true, beq_iff_eq]
  have e : ((v.toNat : Nat) : Int) = v := by omega
  rw [e] at hiv
  constructor
  · intro hm
    obtain ⟨m, hm1, hm2⟩ := List.mem_iff_getElem.1 hm
    have := hiv m (by rw [List.getElem?_eq_getElem hm1, hm2])
    subst this
    exact ⟨hm1, by simp [List.getD_eq_getElem?_getD, List.getElem?_eq_getElem hm1, hm2]⟩
  · rintro ⟨h1, h2⟩
    rw [List.getD_eq_getElem?_getD, List.getElem?_eq_getElem h1] at h2
    simp at h2
    rw [← h2]
    exact List.getElem_mem h1

theorem nodup_le : ∀ (N : Nat) (xs : List Int), (∀ x, x ∈ xs → 0 ≤ x ∧ x < N) → xs.Nodup → xs.length ≤ N
  | 0, xs, h, _ => by
    cases xs with
    | nil => exact Nat.le_refl _
    | cons a l => have := h a List.mem_cons_self; omega
  | N + 1, xs, h, nd => by
    have h2 := nodup_le N (xs.erase (N : Int)) (fun x hx => by
      have h3 := (nd.mem_erase_iff).1 hx
      have := h x h3.2
      omega) (nd.erase _)
    have := List.length_erase (a := (N : Int)) (l := xs)
    split at this <;> omega
theorem SetAt.len {w : World} {base g gw : Nat} {ov : Value} {ws : Array Value} {T e : TypeId} {k : IntKind} {N : Nat} {xs : List Int}
    (h : SetAt w base g gw ov ws T e k N xs) : xs.length ≤ N := nodup_le N xs h.hx h.nd

/-- A set whose blocks lie in ok. -/
def IsSet (T e : TypeId) (k : IntKind) (N : Nat) (xs : List Int) (g base : Nat) (ok : Nat → Prop) (w : World) : Prop :=
  ∃ gw ov ws, SetAt w base g gw ov ws T e k N xs ∧ ok g ∧ ok gw ∧ ∀ b, ov.ownBlock = some b → ok b

section
variable {T e : TypeId} {k : IntKind} {N : Nat} {xs : List Int} {g base : Nat} {ok ok' : Nat → Prop} {w w1 : World}
theorem SetAt.lt {gw : Nat} {ov : Value} {ws : Array Value} (h : SetAt w base g gw ov ws T e k N xs) : g < w.heap.size ∧ gw < w.heap.size ∧ ∀ b, ov.ownBlock = some b → b < w.heap.size :=
  ⟨blk_lt h.hg, blk_lt h.hw, fun b hb => own_lt h.ho b hb⟩
theorem SetAt.move {gw : Nat} {ov : Value} {ws : Array Value} (h : SetAt w base g gw ov ws T e k N xs) (h1 : w1.heap[g]? = w.heap[g]?) (h2 : w1.heap[gw]? = w.heap[gw]?) (h3 : ∀ b, ov.ownBlock = some b → w1.heap[b]? = w.heap[b]?) :
    SetAt w1 base g gw ov ws T e k N xs :=
  { h with hg := h1.trans h.hg, hw := h2.trans h.hw, ho := own_move h.ho h3 }
theorem IsSet.mono (h : IsSet T e k N xs g base ok w) (hok : ∀ k, ok k → ok' k) : IsSet T e k N xs g base ok' w := by
  obtain ⟨gw, ov, ws, h, h1, h2, h3⟩ := h
  exact ⟨gw, ov, ws, h, hok _ h1, hok _ h2, fun b hb => hok _ (h3 b hb)⟩
theorem IsSet.bound (h : IsSet T e k N xs g base ok w) : IsSet T e k N xs g base (fun k => ok k ∧ k < w.heap.size) w := by
  obtain ⟨gw, ov, ws, h, h1, h2, h3⟩ := h
  have hl := h.lt
  exact ⟨gw, ov, ws, h, ⟨h1, hl.1⟩, ⟨h2, hl.2.1⟩, fun b hb => ⟨h3 b hb, hl.2.2 b hb⟩⟩
theorem IsSet.step (h : IsSet T e k N xs g base ok w) (hm : ∀ k, ok k → k < w.heap.size → w1.heap[k]? = w.heap[k]?) : IsSet T e k N xs g base ok w1 := by
  obtain ⟨gw, ov, ws, h, h1, h2, h3⟩ := h
  have hl := h.lt
  exact ⟨gw, ov, ws, h.move (hm g h1 hl.1) (hm gw h2 hl.2.1) (fun b hb => hm b (h3 b hb) (hl.2.2 b hb)), h1, h2, h3⟩
theorem IsSet.chg {S : Nat → Prop} (h : IsSet T e k N xs g base ok w) (hc : Chg S w w1) (hd : ∀ k, k < w.heap.size → ok k → ¬ S k) : IsSet T e k N xs g base ok w1 :=
  (h.bound.step (fun k hk hlt => hc.keep k hlt (hd k hk.2 hk.1))).mono (fun _ hk => hk.1)
theorem IsSet.facts (h : IsSet T e k N xs g base ok w) : N ≤ 65536 ∧ xs.length ≤ N ∧ ok g ∧ g < w.heap.size ∧ base ≤ g ∧ (∀ x, x ∈ xs → 0 ≤ x ∧ x < N) ∧ xs.Nodup := by
  obtain ⟨gw, ov, ws, h, h1, h2, h3⟩ := h
  exact ⟨h.hN, h.len, h1, h.lt.1, h.bg, h.hx, h.nd⟩
end

def setSize (size : Int) : Nat := (min (max size 0) 65536).toNat
def addL (N : Nat) (xs : List Int) (v : Int) : List Int := if 0 ≤ v ∧ v < N ∧ v ∉ xs then xs ++ [v] else xs

/-- What Add's stores leave. -/
theorem SetAt.added {T e : TypeId} {k : IntKind} {N : Nat} {xs : List Int} {g gw base : Nat} {ov v1 : Value} {ws : Array Value} {w W w1 : World} {v : Int} (h : SetAt w base g gw ov ws T e k N xs) (h0 : 0 ≤ v) (h1 : v < N) (hn : v ∉ xs)
    (hW : W = (w.setCell ⟨gw, v.toNat, none⟩ (.int .i64 xs.length)).drew) (hown : w1.ownsRow base e 1 v1 (xs ++ [v]).length (nums k (xs ++ [v]))) (hgr : W.grownBy w1 ov.ownBlock)
    (hat : v1.ownBlock = ov.ownBlock ∨ ∃ b, v1.ownBlock = some b ∧ W.heap.size ≤ b) :
    SetAt (w1.setCell ⟨g, 1, none⟩ v1) base g gw v1 (ws.setIfInBounds v.toNat (.int .i64 xs.length)) T e k N (xs ++ [v]) ∧ Chg (fun b => b = g ∨ b = gw ∨ ov.ownBlock = some b) w (w1.setCell ⟨g, 1, none⟩ v1) := by
  have hsz : W.heap.size = w.heap.size := by subst hW; simp [World.setCell]
  have hl := h.lt
  have hWg : W.heap[g]? = w.heap[g]? := by subst hW; exact Below.heap_setCell _ _ _ _ h.ne
  have hWw : W.heap[gw]? = some (.cells (ws.setIfInBounds v.toNat (.int .i64 xs.length)) 3 (0, 0)) := by subst hW; exact blk_set h.hw _ _
  have h1g : w1.heap[g]? = some (.cells #[.slice (some ⟨gw, 0, none⟩) N N, ov] T (0, 0)) := (hgr.block g (by omega) (fun e => h.og e.symm)).trans (hWg.trans h.hg)
  have h1w : w1.heap[gw]? = some (.cells (ws.setIfInBounds v.toNat (.int .i64 xs.length)) 3 (0, 0)) := (hgr.block gw (by omega) (fun e => h.ow e.symm)).trans hWw
  have nb : ∀ b, b < w.heap.size → ov.ownBlock ≠ some b → v1.ownBlock ≠ some b := by
    intro b hb hne
    rcases hat with ha | ⟨b', ha, hle⟩
    · rw [ha]; exact hne
    · rw [ha]; intro he; injection he with he; omega
  have hch : Chg (fun b => b = g ∨ b = gw ∨ ov.ownBlock = some b) w W := by
    subst hW; exact ((Chg.refl _ w).setCell (p := ⟨gw, v.toNat, none⟩) (.inl (.inr (.inl rfl))) _).drew
  refine ⟨{ h with hg := ?_, hw := ?_, ho := ?_, og := nb g hl.1 h.og, ow := nb gw hl.2.1 h.ow, sz := by simp [h.sz], hx := ?_, nd := ?_, hv := ?_ }, ?_⟩
  · have := blk_set h1g 1 v1
    simpa using this
  · exact (Below.heap_setCell _ _ _ _ (fun e => h.ne e.symm)).trans h1w
  · exact own_setCell hown (fun e => nb g hl.1 h.og e.symm) _
  · intro x hx
    rcases List.mem_append.1 hx with hx | hx
    · exact h.hx x hx
    · rw [List.mem_singleton.1 hx]; exact ⟨h0, h1⟩
  · rw [List.nodup_append]
    exact ⟨h.nd, by simp, fun a ha b hb => by rw [List.mem_singleton.1 hb]; rintro rfl; exact hn ha⟩
  · intro j hj
    obtain ⟨i, hi, hi2, hi3⟩ := h.hv j hj
    by_cases hjv : j = v.toNat
    · subst hjv
      refine ⟨xs.length, by simp [h.sz, hj], Nat.le_trans h.len h.hN, fun m hm => ?_⟩
      rw [List.getElem?_append] at hm
      split at hm
      · exact absurd (List.mem_of_getElem? hm) (by rw [show ((v.toNat : Nat) : Int) = v from by omega]; exact hn)
      · rename_i hge
        rcases Nat.lt_or_ge (m - xs.length) 1 with h5 | h5
        · omega
        · rw [List.getElem?_eq_none (by simpa using h5)] at hm; simp at hm
    · refine ⟨i, by rw [Array.getElem?_setIfInBounds_ne (Ne.symm hjv)]; exact hi, hi2, fun m hm => ?_⟩
      rw [List.getElem?_append] at hm
      split at hm
      · exact hi3 m hm
      · exfalso
        rcases Nat.lt_or_ge (m - xs.length) 1 with h5 | h5
        · have h6 : m - xs.length = 0 := by omega
          rw [h6] at hm
          simp at hm
          omega
        · rw [List.getElem?_eq_none (by simpa using h5)] at hm; simp at hm
  · exact (hch.grown hgr (fun b hb => .inl (.inr (.inr hb)))).setCell (.inl (.inl rfl)) _
end Go.Proofs.Ytpebemljgeammaa.Sp0
