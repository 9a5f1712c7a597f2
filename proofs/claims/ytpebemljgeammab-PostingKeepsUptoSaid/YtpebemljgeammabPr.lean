/-
  The reference's Decode comes to the same list; what is read is written as it was.
-/
import Derived.Test.YtpebemljgeammabPg
import Derived.Test.YtpebemljgeammabPnr
namespace Go.Proofs.Ytpebemljgeammab.Pr
set_option linter.unusedVariables false
set_option linter.unusedSimpArgs false
open Go.RowKit Go.Proofs.YtpebemljgeammabW.PrintWords Go.Proofs.YtpebemljgeammabW.PrintMore Go.Proofs.Ytpebemljgeammab.Hp Go.Proofs.Ytpebemljgeammab.Fm Go.Proofs.Ytpebemljgeammab.Pn Go.Proofs.Ytpebemljgeammab.Pnr Go.Proofs.Ytpebemljgeammab.Pm Go.Proofs.Ytpebemljgeammab.Pw Go.Proofs.Ytpebemljgeammab.Pe Go.Proofs.Ytpebemljgeammab.Pd Go.Proofs.Ytpebemljgeammab.Pf Go.Proofs.Ytpebemljgeammab.PPostingKeeps

/-! what is read is written as it was -/
theorem nx_num {b r : List Int} {x : Nat} (hb : Byt b) (h : nx b = some (x, r)) : b = num x ++ r ∧ Byt r := by
  obtain ⟨h1, h2, h3, h4⟩ := nx_le h
  rcases rd1_inv b hb with h5 | ⟨m, r', e1, e2, _⟩
  · rw [h5] at h4; exact absurd rfl h4
  · rw [e2] at h2 h3
    simp only at h2 h3
    subst h3
    have e3 : r = r' := by rw [h2, e1]; simp
    rw [e3]
    exact ⟨e1, fun y hy => hb y (by rw [e1]; exact List.mem_append_right _ hy)⟩
theorem pA_enc : ∀ (k : Nat) (a : Int) (b f r : List Int), Byt b → pA k a b = some (f, r) → b = encA a f ++ r ∧ f.length = k ∧ Byt r
  | 0, a, b, f, r, hb, h => by
    simp only [pA, Option.some.injEq, Prod.mk.injEq] at h
    obtain ⟨rfl, rfl⟩ := h
    exact ⟨rfl, rfl, hb⟩
  | k + 1, a, b, f, r, hb, h => by
    rw [pA] at h
    split at h
    · cases h
    · rename_i x r1 hn
      obtain ⟨e1, hb1⟩ := nx_num hb hn
      obtain ⟨⟨f', r'⟩, h2, h3⟩ := Option.map_eq_some_iff.1 h
      simp only [Prod.mk.injEq] at h3
      obtain ⟨rfl, rfl⟩ := h3
      obtain ⟨g1, g2, g3⟩ := pA_enc k _ r1 f' r' hb1 h2
      refine ⟨?_, by simp [g2], g3⟩
      rw [encA, show (a + 1 + (x : Int) - a - 1).toNat = x by omega, List.append_assoc, ← g1, ← e1]
theorem pL_enc : ∀ (k : Nat) (d : Int) (b : List Int) (l : List S42) (r : List Int), Byt b → pL k d b = some (l, r) → b = encF d l ++ r ∧ l.length = k ∧ Byt r
  | 0, d, b, l, r, hb, h => by
    simp only [pL, Option.some.injEq, Prod.mk.injEq] at h
    obtain ⟨rfl, rfl⟩ := h
    exact ⟨rfl, rfl, hb⟩
  | k + 1, d, b, l, r, hb, h => by
    rw [pL] at h
    obtain ⟨⟨x, r1⟩, h1, h⟩ := Option.bind_eq_some_iff.1 h
    obtain ⟨⟨y, r2⟩, h2, h⟩ := Option.bind_eq_some_iff.1 h
    obtain ⟨⟨f, r3⟩, h3, h⟩ := Option.bind_eq_some_iff.1 h
    obtain ⟨⟨l', r4⟩, h4, h⟩ := Option.map_eq_some_iff.1 h
    simp only [Prod.mk.injEq] at h h2 h3 h4
    obtain ⟨rfl, rfl⟩ := h
    obtain ⟨e1, b1⟩ := nx_num hb h1
    obtain ⟨e2, b2⟩ := nx_num b1 h2
    obtain ⟨e3, l3, b3⟩ := pA_enc _ _ _ _ _ b2 h3
    obtain ⟨e4, l4, b4⟩ := pL_enc k _ _ _ _ b3 h4
    refine ⟨?_, by simp [l4], b4⟩
    rw [encF]
    simp only
    rw [show (d + 1 + (x : Int) - d - 1).toNat = x by omega, show f.length - 1 = y by omega]
    simp only [List.append_assoc]
    rw [← e4, ← e3, ← e2, ← e1]
theorem dec_enc {b : List Int} {l : List S42} (hb : Byt b) (h : dec b = some l) : encL l = b ∧ may l = true := by
  unfold dec at h
  obtain ⟨⟨n, r⟩, h1, h⟩ := Option.bind_eq_some_iff.1 h
  obtain ⟨⟨l', r'⟩, h2, h⟩ := Option.bind_eq_some_iff.1 h
  split at h
  · rename_i hc
    simp only [Option.some.injEq] at h
    subst h
    obtain ⟨e1, b1⟩ := nx_num hb h1
    obtain ⟨e2, l2, _⟩ := pL_enc _ _ _ _ _ b1 h2
    refine ⟨?_, hc.2⟩
    simp only at e2 l2 hc
    rw [encL, l2, e1, e2, hc.1, List.append_nil]
  · cases h

/-! the reference's Decode -/
def At (b : List Int) (rest : List Int) (bad : Bool) (p : Int) : Prop :=
  (bad = false → ∃ a : Nat, p = a ∧ a ≤ b.length ∧ b.drop a = rest) ∧ (bad = true → p = -1 ∧ nx rest = none)
theorem small_step {b rest : List Int} {bad : Bool} {p : Int} (hb : Byt b) (hl : b.length ≤ 140737488355328) (h : At b rest bad p) (k : Nat) (hk : 2 * b.length + 1 ≤ k) (hmono : ∀ k', 2 * b.length + 1 ≤ k' → ∀ a : Nat, a ≤ b.length → tremaref14_Read.f k' b a = some (((rd1 (b.drop a)).1 : Int), ((rd1 (b.drop a)).2 : Int))) :
    ∃ (x : Nat) (p' : Int) (rest' : List Int) (bad' : Bool), tremaref14_small.f k b p = some ((x : Int), p') ∧ Stp rest bad x rest' bad' ∧ At b rest' bad' p' := by
  cases bad with
  | true =>
    obtain ⟨rfl, hn⟩ := h.2 rfl
    refine ⟨0, -1, rest, true, by unfold tremaref14_small.f; rw [if_pos (by omega)]; rfl, ⟨by omega, .inr ⟨hn, rfl, rfl, rfl⟩⟩, ⟨fun h => (by cases h), fun _ => ⟨rfl, hn⟩⟩⟩
  | false =>
    obtain ⟨a, rfl, ha, rfl⟩ := h.1 rfl
    unfold tremaref14_small.f
    rw [if_neg (by omega), hmono k hk a ha, Option.bind_some]
    simp only
    by_cases h0 : (rd1 (b.drop a)).2 = 0
    · have hn : nx (b.drop a) = none := by unfold nx; rw [if_pos (.inl h0)]
      rw [if_pos (by omega)]
      exact ⟨0, -1, _, true, rfl, ⟨by omega, .inr ⟨hn, rfl, rfl, rfl⟩⟩, ⟨fun h => (by cases h), fun _ => ⟨rfl, hn⟩⟩⟩
    · rw [if_neg (by omega)]
      by_cases h1 : 2147483647 < (rd1 (b.drop a)).1
      · have hn : nx (b.drop a) = none := by unfold nx; rw [if_pos (.inr h1)]
        rw [if_pos (by omega)]
        exact ⟨0, -1, _, true, rfl, ⟨by omega, .inr ⟨hn, rfl, rfl, rfl⟩⟩, ⟨fun h => (by cases h), fun _ => ⟨rfl, hn⟩⟩⟩
      · have hn : nx (b.drop a) = some ((rd1 (b.drop a)).1, (b.drop a).drop (rd1 (b.drop a)).2) := by unfold nx; rw [if_neg (by omega)]
        rw [if_neg (by omega)]
        have hwl : a + (rd1 (b.drop a)).2 ≤ b.length := by
          have hbd : Byt (b.drop a) := fun x hx => hb x (List.mem_of_mem_drop hx)
          rcases rd1_inv _ hbd with h5 | ⟨m, r', e1, e2, _⟩
          · rw [h5]; simpa using ha
          · have := congrArg List.length e1
            rw [List.length_drop, List.length_append] at this
            rw [e2]; simp only; omega
        refine ⟨(rd1 (b.drop a)).1, ((a + (rd1 (b.drop a)).2 : Nat) : Int), _, false, ?_, ⟨by omega, .inl ⟨hn, rfl⟩⟩, ⟨fun _ => ⟨_, rfl, hwl, by rw [List.drop_drop]⟩, fun h => (by cases h)⟩⟩
        congr 2
        · unfold wrap64; omega
        · unfold wrap64; omega
theorem read_mono (b : List Int) (hb : Byt b) (hl : b.length ≤ 140737488355328) (k : Nat) (hk : 2 * b.length + 1 ≤ k) (a : Nat) (ha : a ≤ b.length) : tremaref14_Read.f k b a = some (((rd1 (b.drop a)).1 : Int), ((rd1 (b.drop a)).2 : Int)) := by
  obtain ⟨d, rfl⟩ : ∃ d, k = 2 * b.length + 1 + d := ⟨k - (2 * b.length + 1), by omega⟩
  clear hk
  induction d with
  | zero => exact ref_pure b hb hl a ha
  | succ d ih => exact tremaref14_Read.mono b a _ _ ih
theorem rmay_mono (l : List S42) (hF : Fine l) (k : Nat) (hk : sz l + 1 ≤ k) : tremaref14_May.f k l = some (may l) := by
  obtain ⟨d, rfl⟩ : ∃ d, k = sz l + 1 + d := ⟨k - (sz l + 1), by omega⟩
  clear hk
  induction d with
  | zero => exact rmay_pure l hF
  | succ d ih => exact tremaref14_May.mono l _ _ ih
def res (b : List Int) : List S42 × Int := match (dec b : Option (List S42)) with
  | some l => (l, 0)
  | none => ([], 2)
theorem sz_append (a b : List S42) : sz (a ++ b) = sz a + sz b := by simp [sz]
/-- The end of both loops. -/
theorem ref_end (b : List Int) (hl : b.length ≤ 140737488355328) {b1 rest : List Int} {bad1 bad : Bool} {N k : Nat} {d p : Int} {ls : List S42} (h1 : Stp b false N b1 bad1) (hL : InL N b1 bad1 k d ls rest bad) (hend : bad = false → k = 0) (hA : At b rest bad p) (hF : Fine ls) (f : Nat) (hf : sz ls + 1 ≤ f) :
    (if p = (b.length : Int) then ((tremaref14_May.f f ls).bind fun t134 => (if t134 = true then (some (ls, (0 : Int))) else (some (([] : List S42), 2)))) else (some (([] : List S42), 2))) = some (res b) := by
  have hd := dec_end h1 hL hend
  unfold res
  rw [hd]
  cases bad with
  | true =>
    obtain ⟨rfl, _⟩ := hA.2 rfl
    rw [if_neg (by omega), if_neg (by simp)]
  | false =>
    obtain ⟨a, rfl, ha, hr⟩ := hA.1 rfl
    by_cases h : a = b.length
    · have e : rest = [] := by rw [← hr, h]; simp
      rw [if_pos (by omega), rmay_mono ls hF f hf, Option.bind_some]
      cases hm : may ls with
      | true => rw [if_pos rfl, if_pos ⟨rfl, e, rfl⟩]
      | false => rw [if_neg (by simp), if_neg (by simp)]
    · have e : rest ≠ [] := by
        intro h2
        have := congrArg List.length hr
        rw [h2, List.length_drop] at this
        simp at this; omega
      rw [if_neg (by omega), if_neg (by simp [e])]
def Small (ls : List S42) : Prop := ∀ p, p ∈ ls → p.f1.length ≤ 2147483648
theorem Small.sz {ls : List S42} (h : Small ls) : sz ls ≤ ls.length * 2147483652 := by
  induction ls with
  | nil => simp [Pm.sz]
  | cons p l ih =>
    have h1 := h p (by simp)
    have h2 := ih (fun q hq => h q (by simp [hq]))
    rw [sz_cons, List.length_cons]
    omega
theorem Small.fine {ls : List S42} (h : Small ls) (hl : ls.length ≤ 2147483648) : Fine ls := ⟨by omega, fun p hp => by have := h p hp; omega⟩

theorem ref_l1 (b : List Int) (hb : Byt b) (hl : b.length ≤ 140737488355328) (N : Nat) (ls : List S42) (hls : ls.length < 2147483648) (b3 : List Int) (bad3 : Bool) (x2 : Nat) (hx2 : x2 ≤ 2147483647) (D i : Int) (hi : i + 1 ≤ 2147483648 ∧ 0 ≤ i) (G : Nat) (hG : 2 * b.length + 1 ≤ G)
    (hnext : ∀ (k2 : Nat) (a : Int) (f rest : List Int) (bad : Bool) (p : Int) (g : Nat), G ≤ g → f.length ≤ 2147483648 → InA (x2 + 1) b3 bad3 k2 a f rest bad → (bad = false → k2 = 0) → At b rest bad p → tremaref14_Decode.l0 g b (ls ++ [⟨D, f⟩]) N p D (i + 1) = some (res b)) :
    ∀ (k2 : Nat) (a : Int) (f rest : List Int) (bad : Bool) (p : Int) (g : Nat), k2 + f.length = x2 + 1 → (-1 ≤ a ∧ a + 1 ≤ f.length * 2147483648) → InA (x2 + 1) b3 bad3 k2 a f rest bad → At b rest bad p → k2 + 1 + G ≤ g →
      tremaref14_Decode.l1 g b ls N p D i x2 a f.length D f = some (res b) := by
  intro k2
  induction k2 with
  | zero =>
    intro a f rest bad p g hk ha hA hp hg
    obtain ⟨g, rfl⟩ : ∃ g', g = g' + 1 := ⟨g - 1, by omega⟩
    rw [tremaref14_Decode.l1, if_neg (by omega), if_pos (by omega), show wrap64 (i + 1) = i + 1 by unfold wrap64; omega]
    exact hnext 0 a f rest bad p g (by omega) (by omega) hA (fun _ => rfl) hp
  | succ k2 ih =>
    intro a f rest bad p g hk ha hA hp hg
    obtain ⟨g, rfl⟩ : ∃ g', g = g' + 1 := ⟨g - 1, by omega⟩
    rw [tremaref14_Decode.l1, if_pos (by omega)]
    cases bad with
    | true =>
      have hpn := (hp.2 rfl).1
      rw [if_neg (by omega), if_pos (by omega), show wrap64 (i + 1) = i + 1 by unfold wrap64; omega]
      exact hnext (k2 + 1) a f rest true p g (by omega) (by omega) hA (fun h => by cases h) hp
    | false =>
      obtain ⟨a0, hp0, _⟩ := hp.1 rfl
      obtain ⟨x, p', rest', bad', h1, h2, h3⟩ := small_step hb hl hp g (by omega) (fun k' hk' a ha => read_mono b hb hl k' hk' a ha)
      have hx := h2.1
      rw [if_pos (by omega), h1, Option.bind_some, if_pos (by omega)]
      have e1 : wrap64 (wrap64 (a + (x : Int)) + 1) = a + 1 + x := by unfold wrap64; omega
      have e2 : wrap64 ((f.length : Int) + 1) = ((f ++ [a + 1 + (x : Int)]).length : Int) := by rw [List.length_append]; simp; unfold wrap64; omega
      simp only
      rw [e1, e2]
      exact ih (a + 1 + x) (f ++ [a + 1 + (x : Int)]) rest' bad' p' g (by simp; omega) (by rw [List.length_append]; simp; omega) (hA.step h2) h3 (by omega)
theorem ref_l0 (b : List Int) (hb : Byt b) (hl : b.length ≤ 140737488355328) {b1 : List Int} {bad1 : Bool} {N : Nat} (h1 : Stp b false N b1 bad1) : ∀ (k : Nat) (d : Int) (ls : List S42) (rest : List Int) (bad : Bool) (p : Int) (g : Nat), k + ls.length = N → (-1 ≤ d ∧ d + 1 ≤ ls.length * 2147483648) → Small ls → InL N b1 bad1 k d ls rest bad → At b rest bad p → k * 2147483656 + 4611967514878935060 ≤ g →
    tremaref14_Decode.l0 g b ls N p d ls.length = some (res b) := by
  have hN := h1.1
  intro k
  induction k with
  | zero =>
    intro d ls rest bad p g hk hd hS hL hp hg
    obtain ⟨g, rfl⟩ : ∃ g', g = g' + 2 := ⟨g - 2, by omega⟩
    rw [tremaref14_Decode.l0, if_neg (by omega), tremaref14_Decode.j1, if_neg (by simp)]
    have hsz := hS.sz
    exact ref_end b hl h1 hL (fun _ => rfl) hp (hS.fine (by omega)) g (by omega)
  | succ k ih =>
    intro d ls rest bad p g hk hd hS hL hp hg
    obtain ⟨g, rfl⟩ : ∃ g', g = g' + 2 := ⟨g - 2, by omega⟩
    have hsz := hS.sz
    rw [tremaref14_Decode.l0, if_pos (by omega), tremaref14_Decode.j1]
    cases bad with
    | true =>
      have hpn := (hp.2 rfl).1
      rw [decide_eq_false (by omega), if_neg (by simp)]
      exact ref_end b hl h1 hL (fun h => by cases h) hp (hS.fine (by omega)) g (by omega)
    | false =>
      obtain ⟨a0, hp0, _⟩ := hp.1 rfl
      obtain ⟨x1, p1, rest1, bad2, g1, g2, g3⟩ := small_step hb hl hp g (by omega) (fun k' hk' a ha => read_mono b hb hl k' hk' a ha)
      obtain ⟨x2, p2, rest2, bad3, q1, q2, q3⟩ := small_step hb hl g3 g (by omega) (fun k' hk' a ha => read_mono b hb hl k' hk' a ha)
      have hx1 := g2.1
      have hx2 := q2.1
      rw [decide_eq_true (by omega), if_pos rfl, g1, Option.bind_some]
      simp only
      rw [q1, Option.bind_some]
      simp only
      have e1 : wrap64 (wrap64 (d + (x1 : Int)) + 1) = d + 1 + x1 := by unfold wrap64; omega
      rw [e1]
      obtain ⟨G, hG⟩ : ∃ G, G = k * 2147483656 + 4611967514878935060 := ⟨_, rfl⟩
      refine ref_l1 b hb hl N ls (by omega) rest2 bad3 x2 hx2 (d + 1 + x1) ls.length (by omega) G (by omega) ?_ (x2 + 1) (-1) [] rest2 bad3 p2 g (by simp) (by simp) (InA.start _ _ _) q3 (by omega)
      intro k2 a f rest' bad' p' g' hg' hf hA hend hp'
      have := ih (d + 1 + x1) (ls ++ [⟨d + 1 + x1, f⟩]) rest' bad' p' g' (by simp; omega) (by rw [List.length_append]; simp; omega) (fun q hq => by
        rcases List.mem_append.1 hq with hq | hq
        · exact hS q hq
        · rw [List.mem_singleton] at hq; rw [hq]; exact hf) (hL.step g2 q2 hA hend) hp' (by rw [← hG]; exact hg')
      rw [List.length_append] at this
      simpa using this
theorem refdec_pure (b : List Int) (hb : Byt b) (hl : b.length ≤ 140737488355328) : ∃ F, tremaref14_Decode.f F b = some (res b) := by
  obtain ⟨F, hF⟩ : ∃ F, F = 2147483647 * 2147483656 + 4611967514878935060 := ⟨_, rfl⟩
  refine ⟨F, ?_⟩
  unfold tremaref14_Decode.f
  obtain ⟨N, p, rest, bad, g1, g2, g3⟩ := small_step (bad := false) (p := 0) hb hl ⟨fun _ => ⟨0, rfl, Nat.zero_le _, by rw [List.drop_zero]⟩, fun h => (by cases h)⟩ F (by omega) (fun k' hk' a ha => read_mono b hb hl k' hk' a ha)
  rw [g1, Option.bind_some]
  simp only
  have hN := g2.1
  exact ref_l0 b hb hl g2 N (-1) [] rest bad p _ (by simp) (by simp) (fun p hp => by cases hp) (InL.start _ _ _) g3 (by omega)
theorem RefDecodeP (w : World) (A : Option Addr) (n c : Nat) (b : List Int) (hC : KB.C w A n b) (hB : Byt b) (hn : n = b.length) (hc : n ≤ c) (hl : n ≤ 140737488355328) (r : List S42) (ec : Int) (hr : dec b = some r ∧ ec = 0 ∨ dec b = none ∧ r = [] ∧ ec = 2) :
    Calls Try.prog 10 #[.slice A n c] w fun e w' => ∃ v, e = .returned (.tuple #[v, .int .i64 ec]) ∧ Sep w [rowT k42 TP w.heap.size v r] w' := by
  subst hn
  have e : res b = (r, ec) := by
    unfold res
    rcases hr with ⟨h, rfl⟩ | ⟨h, rfl, rfl⟩ <;> rw [h]
  obtain ⟨F, hf⟩ := refdec_pure b hB hl
  rw [e] at hf
  refine (tremaref14_Decode.calls F A c b r ec w hC hc hf).mono ?_
  rintro e w' ⟨v, rfl, h2, h3⟩
  exact ⟨v, rfl, (Sep.nil w).new (rowT k42 TP w.heap.size v r) (ok := fun k => w.heap.size ≤ k) (Kd.R_mono (Kd.R_bound (Kd.S_R h2)) (fun k hk => hk.2.1)) (fun _ h => h) h3⟩
end Go.Proofs.Ytpebemljgeammab.Pr
