/-
  sparse.Set[int]: its functions' contracts.
-/
import Derived.Test.YtpebemljgeammaaProg
import Derived.WalkKit
import Derived.WalkSpells
import Derived.WalkLawsBesides
import Derived.BigQuiet
import Derived.Deep.QuietTactic
import Derived.Deep.RegionHeld3
import Derived.Test.YtpebemljgeammaaHp
import Derived.Test.YtpebemljgeammaaSp0
namespace Go.Proofs.Ytpebemljgeammaa.Spint
set_option linter.unusedVariables false
set_option linter.unusedSimpArgs false
open Go.RowKit Go.Proofs.YtpebemljgeammaaW.PrintWords Go.Proofs.Ytpebemljgeammaa.Hp Go.Proofs.Ytpebemljgeammaa.Sp0

theorem info_e : (Try.prog.info? 3).map (fun i => (i.zero, i.size, i.bytes)) = some (some (.int .i64 0), 1, 8) := by kernel_rfl

set_option maxHeartbeats 1000000 in
theorem has (w : World) (base g gw : Nat) (ov : Value) (ws : Array Value) (N : Nat) (xs : List Int) (v : Int) (hv : (Lit.int .i64 v).wf = true)
    (h : SetAt w base g gw ov ws 95 3 .i64 N xs) :
    Calls Try.prog 30 #[.pointer (some ⟨g, 0, none⟩), .int .i64 v] w fun e w' => e = .returned (.bool (decide (v ∈ xs))) ∧ w = w' := by
  have hvb : -9223372036854775808 ≤ v ∧ v ≤ 9223372036854775807 := by simpa [Lit.wf, IntKind.min, IntKind.max, IntKind.signed, IntKind.bits] using hv
  have c0 : w.cell? ⟨g, 0, none⟩ = some (.slice (some ⟨gw, 0, none⟩) N N) := by simp [World.cell?, h.hg]
  have c1 : w.cell? ⟨g, 1, none⟩ = some ov := by simp [World.cell?, h.hg]
  obtain ⟨A, c, rfl, hm, hA⟩ := h.slice
  have hN := h.hN
  obtain ⟨hv1, hv2⟩ := hvb
  by_cases hr : 0 ≤ v ∧ v < N
  · obtain ⟨h0, h1⟩ := hr
    obtain ⟨i, hi, him, hiv⟩ := h.hv v.toNat (by omega)
    have c2 : w.cell? ⟨gw, v.toNat, none⟩ = some (.int .i64 i) := by simp [World.cell?, h.hw, hi]
    by_cases hl : i < xs.length
    · obtain ⟨ad, rfl, c3⟩ := hA i hl
      have hb : (decide (v ∈ xs)) = (xs.getD i 0 == v) := by rw [mem_idx h1 h0 hiv]; simp [hl]
      have hl' : decide (i < xs.length) = true := by simpa using hl
      rw [hb]
      clear hiv hb hi hA h
      obtain ⟨y, hy⟩ : ∃ y, y = xs.getD i 0 := ⟨_, rfl⟩
      rw [← hy] at c3 ⊢
      clear hy
      go_enter Try.func30, Try.ntmps30
      go_wp2
      go_ret
      exact ⟨by simp, rfl⟩
    · have hb : (decide (v ∈ xs)) = false := by rw [mem_idx h1 h0 hiv]; simp [hl]
      have hl' : decide (i < xs.length) = false := by simpa using hl
      rw [hb]
      clear hiv hb hi hA h hl
      go_enter Try.func30, Try.ntmps30
      go_wp2
      go_ret
      exact ⟨by simp, rfl⟩
  · have hb : (decide (v ∈ xs)) = false := by
      have := h.hx v
      simp; intro hc; exact hr (this hc)
    rw [hb]
    clear hb hA h
    go_enter Try.func30, Try.ntmps30
    go_wp2
    all_goals go_ret
    all_goals exact ⟨by simp, rfl⟩

set_option maxHeartbeats 1000000 in
theorem add_new (w : World) (base g gw : Nat) (ov : Value) (ws : Array Value) (N : Nat) (xs : List Int) (v : Int) (hv : (Lit.int .i64 v).wf = true)
    (h : SetAt w base g gw ov ws 95 3 .i64 N xs) (h0 : 0 ≤ v) (h1 : v < N) (hn : decide (v ∈ xs) = false) :
    Calls Try.prog 26 #[.pointer (some ⟨g, 0, none⟩), .int .i64 v] w fun e w' => e = .returned (.bool true) ∧
      Aside0 (∃ ov' ws', SetAt w' base g gw ov' ws' 95 3 .i64 N (xs ++ [v]) ∧ (∀ b, ov'.ownBlock = some b → ov.ownBlock = some b ∨ w.heap.size ≤ b) ∧ Chg (fun b => b = g ∨ b = gw ∨ ov.ownBlock = some b) w w') := by
  have hvb : -9223372036854775808 ≤ v ∧ v ≤ 9223372036854775807 := by simpa [Lit.wf, IntKind.min, IntKind.max, IntKind.signed, IntKind.bits] using hv
  have c0 : w.cell? ⟨g, 0, none⟩ = some (.slice (some ⟨gw, 0, none⟩) N N) := by simp [World.cell?, h.hg]
  have c1 : w.cell? ⟨g, 1, none⟩ = some ov := by simp [World.cell?, h.hg]
  obtain ⟨A, c, rfl, hm, hA⟩ := h.slice
  have hN := h.hN
  obtain ⟨hv1, hv2⟩ := hvb
  obtain ⟨i, hi, him, hiv⟩ := h.hv v.toNat (by omega)
  have c2 : w.cell? ⟨gw, v.toNat, none⟩ = some (.int .i64 i) := by simp [World.cell?, h.hw, hi]
  have f2 : w.frozen? ⟨gw, v.toNat, none⟩ = false := by simp [World.frozen?, h.hw]
  have f1 : w.frozen? ⟨g, 1, none⟩ = false := by simp [World.frozen?, h.hg]
  have H := Aside0.mk h
  clear h hi hA hiv
  go_enter Try.func26, Try.ntmps26
  go_wp2_with (go_at_call 30; refine (has w base g gw _ ws N xs v hv H.out).mono ?_; rintro e w' ⟨rfl, rfl⟩)
  go_region
  obtain ⟨W, hW⟩ : ∃ W, W = (w.setCell ⟨gw, v.toNat, none⟩ (.int .i64 xs.length)).drew := ⟨_, rfl⟩
  rw [← hW]
  have k1 : W.cell? ⟨g, 1, none⟩ = some (.slice A xs.length c) := by
    have : W.heap[g]? = w.heap[g]? := by rw [hW]; exact Below.heap_setCell _ _ _ _ H.out.ne
    rw [← c1]; simp [World.cell?, this]
  have hsz : W.heap.size = w.heap.size := by rw [hW]; simp [World.setCell]
  have HO : W.ownsRow base 3 1 (.slice A xs.length c) xs.length (nums .i64 xs) := by
    rw [hW]; exact own_setCell H.out.ho (fun e => H.out.ow e.symm) _
  have HW := Aside0.mk hW
  have HO := Aside0.mk HO
  have HS := Aside0.mk hsz
  clear hW hsz c0 c1 c2 f2 f1
  go_wp2_with (at_builtin; go_must (refine print_append_num (w0 := W) base rfl (.tmp 40) (.tmp 42) 24 3 .i64 8 rfl Try.underlying24 info_e (by decide) (.slice A xs.length c) xs v rfl rfl HO.out (Below.refl _ _) ?hb ?hl ?hh))
  case hb => have := H.out.bg; have := H.out.lt.1; have := HS.out; omega
  case hl => have := H.out.len; omega
  case hh =>
    intro v1 w1 hown _ hgr hat
    have hres := H.out.added h0 h1 (by simpa using hn) HW.out (by simpa using hown) hgr hat
    have hg1 : w1.cell? ⟨g, 1, none⟩ = some (.slice A xs.length c) := hgr.cell k1 (fun e => H.out.og e.symm)
    have hf1 : w1.frozen? ⟨g, 1, none⟩ = false := by
      have : w1.heap[g]? = W.heap[g]? := hgr.block g (by have := H.out.lt.1; have := HS.out; omega) (fun e => H.out.og e.symm)
      have h2 : W.heap[g]? = w.heap[g]? := by rw [HW.out]; exact Below.heap_setCell _ _ _ _ H.out.ne
      simp [World.frozen?, this, h2, H.out.hg]
    have hfin : Aside0 (∃ ov' ws', SetAt (w1.setCell ⟨g, 1, none⟩ v1) base g gw ov' ws' 95 3 .i64 N (xs ++ [v]) ∧ (∀ b, ov'.ownBlock = some b → (Value.slice A xs.length c).ownBlock = some b ∨ w.heap.size ≤ b) ∧ Chg (fun b => b = g ∨ b = gw ∨ (Value.slice A xs.length c).ownBlock = some b) w (w1.setCell ⟨g, 1, none⟩ v1)) := by
      refine ⟨⟨v1, _, hres.1, ?_, hres.2⟩⟩
      intro b hb
      rcases hat with ha | ⟨b', ha, hle⟩
      · left; rw [← ha]; exact hb
      · right; rw [ha] at hb; injection hb with hb; have := HS.out; omega
    obtain ⟨A1, c1, rfl⟩ := own_slice hown
    clear hres hat hown
    go_wp2
    go_ret
    exact ⟨rfl, hfin⟩

set_option maxHeartbeats 1000000 in
theorem add_old (w : World) (base g gw : Nat) (ov : Value) (ws : Array Value) (N : Nat) (xs : List Int) (v : Int) (hv : (Lit.int .i64 v).wf = true)
    (h : SetAt w base g gw ov ws 95 3 .i64 N xs) (hn : ¬ (0 ≤ v ∧ v < N ∧ v ∉ xs)) :
    Calls Try.prog 26 #[.pointer (some ⟨g, 0, none⟩), .int .i64 v] w fun e w' => e = .returned (.bool false) ∧ w = w' := by
  have hvb : -9223372036854775808 ≤ v ∧ v ≤ 9223372036854775807 := by simpa [Lit.wf, IntKind.min, IntKind.max, IntKind.signed, IntKind.bits] using hv
  have c0 : w.cell? ⟨g, 0, none⟩ = some (.slice (some ⟨gw, 0, none⟩) N N) := by simp [World.cell?, h.hg]
  have hN := h.hN
  obtain ⟨hv1, hv2⟩ := hvb
  have H := Aside0.mk h
  by_cases hr : 0 ≤ v ∧ v < N
  · obtain ⟨h0, h1⟩ := hr
    have hm : decide (v ∈ xs) = true := by simp; exact Decidable.byContradiction (fun hc => hn ⟨h0, h1, hc⟩)
    clear h hn
    go_enter Try.func26, Try.ntmps26
    go_wp2_with (go_at_call 30; refine (has w base g gw _ ws N xs v hv H.out).mono ?_; rintro e w' ⟨rfl, rfl⟩)
    go_ret
    exact ⟨rfl, rfl⟩
  · clear h hn
    go_enter Try.func26, Try.ntmps26
    go_wp2_with (go_at_call 30; refine (has w base g gw _ ws N xs v hv H.out).mono ?_; rintro e w' ⟨rfl, rfl⟩)
    all_goals go_ret
    all_goals exact ⟨rfl, rfl⟩

theorem Has (w : World) (base g : Nat) (ok : Nat → Prop) (N : Nat) (xs : List Int) (v : Int) (hv : (Lit.int .i64 v).wf = true) (h : IsSet 95 3 .i64 N xs g base ok w) :
    Calls Try.prog 30 #[.pointer (some ⟨g, 0, none⟩), .int .i64 v] w fun e w' => e = .returned (.bool (decide (v ∈ xs))) ∧ w = w' := by
  obtain ⟨gw, ov, ws, h, _⟩ := h
  exact has w base g gw ov ws N xs v hv h

theorem Add (w : World) (base g : Nat) (ok : Nat → Prop) (N : Nat) (xs : List Int) (v : Int) (hv : (Lit.int .i64 v).wf = true) (h : IsSet 95 3 .i64 N xs g base ok w) :
    Calls Try.prog 26 #[.pointer (some ⟨g, 0, none⟩), .int .i64 v] w fun e w' => e = .returned (.bool (decide (0 ≤ v ∧ v < N ∧ v ∉ xs))) ∧
      Aside0 (IsSet 95 3 .i64 N (addL N xs v) g base (fun b => ok b ∨ w.heap.size ≤ b) w' ∧ Chg ok w w') := by
  obtain ⟨gw, ov, ws, h, o1, o2, o3⟩ := h
  by_cases hr : 0 ≤ v ∧ v < N ∧ v ∉ xs
  · refine (add_new w base g gw ov ws N xs v hv h hr.1 hr.2.1 (by simpa using hr.2.2)).mono ?_
    rintro e w' ⟨rfl, ⟨ov', ws', h', hb, hc⟩⟩
    refine ⟨by simp [hr], ⟨⟨gw, ov', ws', by simp only [addL, if_pos hr]; exact h', .inl o1, .inl o2, fun b hb' => (hb b hb').imp (o3 b) id⟩, hc.mono ?_⟩⟩
    rintro k _ (rfl | rfl | hk)
    · exact o1
    · exact o2
    · exact o3 _ hk
  · refine (add_old w base g gw ov ws N xs v hv h hr).mono ?_
    rintro e w' ⟨rfl, rfl⟩
    refine ⟨by simp only [hr, decide_false], ⟨⟨gw, ov, ws, by simp only [addL, if_neg hr]; exact h, .inl o1, .inl o2, fun b hb => .inl (o3 b hb)⟩, Chg.refl _ _⟩⟩

end Go.Proofs.Ytpebemljgeammaa.Spint
