/-
  Several texts of this claim in one: what its law's proof uses.
-/
import Derived.Test.YthffpkdadffinaaDoorMSC16
import Derived.Test.YthffpkdadffinaaDoorRows
import Derived.Test.YthffpkdadffinaaDoorMSC2
import Derived.Deep.Slices
import Derived.ChangeArms
import Derived.ChangeMaps
import Derived.SizedLaws
import Derived.OpenShut
import Derived.ProofKit
import Derived.BigQuiet
import Derived.LaidMore
import Derived.Stop.Joined
import Derived.Test.YthffpkdadffinaaDoorMSC14
import Derived.Test.YthffpkdadffinaaDoorTie
import Derived.Test.YthffpkdadffinaaDoorCards
import Derived.WalkKit
import Derived.ShutString
import Derived.ChangeOld
import Derived.Below
import Derived.JoinedCond
import Derived.SevenTiedAt
import Derived.Deep.DeepHandedRow
import Derived.Deep.DeepWitnessRowRef
namespace Go.Proofs.YthffpkdadffinaaDoor.Sgaa
set_option linter.unusedVariables false
set_option linter.unusedSimpArgs false
open Go.Proofs.YthffpkdadffinaaDoor.Vd (decU)
open Go.Proofs.YthffpkdadffinaaDoor.Ux (Bytes full dc dc_cons one1)
open Go.RowKit Go.Proofs.YthffpkdadffinaaDoorW.PrintWords Go.Proofs.YthffpkdadffinaaDoor.Hp Go.Proofs.YthffpkdadffinaaDoor.Fm Go.Proofs.YthffpkdadffinaaDoor.X Go.Proofs.YthffpkdadffinaaDoor.Va Go.Proofs.YthffpkdadffinaaDoor.Oa Go.Proofs.YthffpkdadffinaaDoor.Vp0 Go.Proofs.YthffpkdadffinaaDoor.Sga Go.Proofs.YthffpkdadffinaaDoor.Sgb Go.Proofs.YthffpkdadffinaaDoor.Sgc Go.Proofs.YthffpkdadffinaaDoor.Sgd Go.Proofs.YthffpkdadffinaaDoor.Sgp Go.Proofs.YthffpkdadffinaaDoor.Sgq Go.Proofs.YthffpkdadffinaaDoor.Sgz
theorem decU_ne (x : Int) (hx : I32 x) : decU x ≠ [] := by
  have h := flat_ne [x] (by simp)
  have e : flat [x] = decU x := by simp [flat]
  rwa [e] at h
theorem tk_ne (lim : Int) : ∀ (ps : List SP) (o : List Int) (a e : Int), (∀ p ∈ ps, fine p) → o ≠ [] → (tk lim ps o a e).2.2.2.2 = false → (tk lim ps o a e).2.1 ≠ []
  | [], o, a, e, _, h, _ => h
  | p :: ps, o, a, e, hf, h, hb => by
    have hp := hf p (List.mem_cons_self ..)
    have ht := fun q hq => hf q (List.mem_cons_of_mem _ hq)
    rw [tk] at hb ⊢
    split
    · rename_i hfl
      rw [if_pos hfl] at hb
      split
      · rename_i hl
        rw [if_pos hl] at hb
        cases hb
      · rename_i hl
        rw [if_neg hl] at hb
        exact tk_ne lim ps _ _ _ ht (decU_ne _ hp.1) hb
    · rename_i hfl
      rw [if_neg hfl] at hb
      split
      · rename_i hl
        rw [if_pos hl] at hb
        cases hb
      · rename_i hl
        rw [if_neg hl] at hb
        exact tk_ne lim ps _ _ _ ht (by simp [h]) hb
theorem tk_bot (lim : Int) : ∀ (ps : List SP) (o : List Int) (a e : Int), (∀ p ∈ ps, fine p) → (∀ y ∈ o, decU y = [y]) → ∀ y ∈ (tk lim ps o a e).2.1, decU y = [y]
  | [], o, a, e, _, h => h
  | p :: ps, o, a, e, hf, h => by
    have hp := hf p (List.mem_cons_self ..)
    have hd := Oa.dec_bot p.f0 hp.1
    have ht := fun q hq => hf q (List.mem_cons_of_mem _ hq)
    rw [tk]
    split
    · split
      · intro y hy; cases hy
      · exact tk_bot lim ps _ _ _ ht (fun y hy => (hd y hy).1)
    · split
      · intro y hy; cases hy
      · exact tk_bot lim ps _ _ _ ht (fun y hy => (List.mem_append.1 hy).elim (h y) (fun h => (hd y h).1))
theorem dc_at0 (b : List Int) : ∀ p t, (dc b 0).1 = p :: t → p.f1 = 0 := by
  intro p t h
  cases b with
  | nil => rw [Ux.dc_nil] at h; cases h
  | cons c r =>
    rw [dc_cons] at h
    split at h
    · cases h
    · rw [← (List.cons.inj h).1]
theorem sure_of (lim : Int) (b : List Int) (hB : Bytes b) (hl : b.length ≤ 10000000) :
    sureF lim b = if (tk lim (dc b 0).1 [] 0 0).2.2.2.2 = true then ((tk lim (dc b 0).1 [] 0 0).1, 6, 0) else ((tk lim (dc b 0).1 [] 0 0).1, 0, ((tk lim (dc b 0).1 [] 0 0).2.1.length : Int)) := by
  obtain ⟨D, hD⟩ : ∃ D, D = (dc b 0).1 := ⟨_, rfl⟩
  have hff : ∀ p ∈ D, fine p := by
    rw [hD]
    exact Sgc.dec_fine b.length b 0 hB (Int.le_refl _) (by omega)
  have h0 : ∀ p t, D = p :: t → p.f1 = 0 := by rw [hD]; exact dc_at0 b
  have hc := tk_cutS lim D hff h0
  have hbot := tk_bot lim D [] 0 0 hff (by simp)
  unfold sureF
  rw [← hD, hc]
  have hne : D ≠ [] → (tk lim D [] 0 0).2.2.2.2 = false → (tk lim D [] 0 0).2.1 ≠ [] := by
    intro hn hb
    cases D with
    | nil => exact absurd rfl hn
    | cons p t =>
      rw [tk, show flushB [] p.f0 = false from rfl, if_neg (by decide)] at hb ⊢
      split
      · rename_i hlm
        rw [if_pos hlm] at hb
        cases hb
      · rename_i hlm
        rw [if_neg hlm] at hb
        exact tk_ne lim t _ _ _ (fun q hq => hff q (List.mem_cons_of_mem _ hq)) (by simpa using decU_ne p.f0 (hff p (List.mem_cons_self ..)).1) hb
  have hall : (tk lim D [] 0 0).2.2.2.2 = false → cutS D = fin (tk lim D [] 0 0) := by
    intro hb
    have h1 := goodS_all lim (cutS D) (by rw [hc]; exact hb)
    rw [hc] at h1
    exact h1.symm
  cases hr : D with
  | nil => rfl
  | cons p t =>
    rw [← hr]
    have hne := hne (by rw [hr]; simp)
    obtain ⟨⟨out, o, a, e, bad⟩, hR⟩ : ∃ R, R = tk lim D [] 0 0 := ⟨_, rfl⟩
    rw [← hR] at hne hall hbot ⊢
    cases bad with
    | true => rfl
    | false =>
      have hne := hne rfl
      have hall := hall rfl
      have he : o.isEmpty = false := by
        cases o with
        | nil => exact absurd rfl hne
        | cons x t => rfl
      have hfin : fin (out, o, a, e, false) = out ++ [⟨txt o, a, e⟩] := by
        unfold fin
        simp only [Bool.false_eq_true, if_false, he]
      rw [hall, hfin]
      simp only [Bool.false_eq_true, if_false, List.length_append, List.length_singleton, if_neg (show ¬ out.length + 1 = 0 by omega), Nat.add_sub_cancel]
      have hln : lenF (txt o) = o.length := by
        rw [lenF_txt, nrm_len, flat_id o hbot]
      rw [List.take_left' rfl, List.getD_eq_getElem?_getD, List.getElem?_append_right (Nat.le_refl _)]
      simp [hln]
end Go.Proofs.YthffpkdadffinaaDoor.Sgaa
namespace Go.Proofs.YthffpkdadffinaaDoor.Od
set_option linter.unusedVariables false
set_option linter.unusedSimpArgs false
open Go.RowKit Go.Proofs.YthffpkdadffinaaDoorW.PrintWords Go.Proofs.YthffpkdadffinaaDoor.Hp Go.ChangeShapes Go.WideShapes
def Opens {α : Type} (P : Program) (t : TypeId) (d : Kd α) (wf : α → Prop) (bulk : α → Nat) : Prop :=
  ∀ (H : Type) (enc : TypeId × Value → H) (w : World) (base : Nat) (spare : Nat → Bool) (held : Bool) (fuel : Nat) (cs : List Value) (x : DataW H × List MemPlace),
    DataW.trod enc P w base spare held fuel t cs = some x → ∃ a, d.K w a cs ∧ wf a ∧ bulk a ≤ Rows.uptoBulk x.1
def sumB {α : Type} (bulk : α → Nat) : List α → Nat
  | [] => 0
  | a :: l => bulk a + sumB bulk l
theorem sumB_len {α : Type} {bulk : α → Nat} (h1 : ∀ a, 1 ≤ bulk a) (l : List α) : l.length ≤ sumB bulk l := by
  induction l with
  | nil => simp [sumB]
  | cons x l ih => simp only [sumB, List.length_cons]; have := h1 x; omega
theorem bulkAll_append {H : Type} (l r : List (DataW H)) : Rows.uptoBulkAll (l ++ r) = Rows.uptoBulkAll l + Rows.uptoBulkAll r := by
  induction l with
  | nil => simp [Rows.uptoBulkAll]
  | cons x l ih => simp only [List.cons_append, Rows.uptoBulkAll, ih]; omega
section
variable {P : Program}
theorem opens_int {t : TypeId} {k : IntKind} (ht : P.underlying t = some (.int k)) : Opens P t (Kd.int k) (fun n => (Lit.int k n).wf = true) (fun _ => 1) := by
  intro H enc w base spare held fuel cs x h
  obtain ⟨n, rfl, rfl, hw⟩ := DataW.trod_int ht h
  exact ⟨n, rfl, hw, by simp [Rows.uptoBulk]⟩
theorem slice_list {α : Type} {d : Kd α} {wf : α → Prop} {bulk : α → Nat} {e : TypeId} {H : Type} {enc : TypeId × Value → H} {w : World} {base : Nat} {spare : Nat → Bool} {held : Bool} (ho : Opens P e d wf bulk) (hC : P.cellsOf e = d.sz) {a : Addr} {m n : Nat} {D : Nat → DataW H} {Pl : Nat → List MemPlace}
    (hx : ∀ i, i < m → ∃ cs', w.cells? base (a.add (i * P.cellsOf e)) (P.cellsOf e) = some cs' ∧ DataW.trod enc P w base spare held n e cs' = some (D i, Pl i)) (len : Nat) (hl : len ≤ m) (hM : len ≤ 9223372036854775807) :
    ∃ xs : List α, xs.length = len ∧ d.C w (some a) len xs ∧ (∀ x, x ∈ xs → wf x) ∧ sumB bulk xs ≤ Rows.uptoBulkAll ((List.range len).map D) := by
  have key : ∀ k, k ≤ len → ∃ xs : List α, xs.length = k ∧ (∀ j p, xs[j]? = some p → ∃ c, c.length = d.sz ∧ d.K w p c ∧ ∀ i u, c[i]? = some u → w.cell? (a.add (j * d.sz + i)) = some u) ∧ (∀ x, x ∈ xs → wf x) ∧ sumB bulk xs ≤ Rows.uptoBulkAll ((List.range k).map D) := by
    intro k
    induction k with
    | zero => exact fun _ => ⟨[], rfl, by simp, by simp, by simp [sumB]⟩
    | succ k ih =>
      intro hk
      obtain ⟨xs, h1, h2, h3, h4⟩ := ih (by omega)
      obtain ⟨cs', hc, ht⟩ := hx k (by omega)
      obtain ⟨p, hK, hw, hb⟩ := ho H enc w base spare held n cs' _ ht
      obtain ⟨_, hcl, hcell⟩ := World.cells?_some hc
      refine ⟨xs ++ [p], by simp [h1], ?_, ?_, ?_⟩
      · intro j q hq
        rw [List.getElem?_append] at hq
        split at hq
        · exact h2 j q hq
        · rename_i hge
          rcases Nat.lt_or_ge (j - xs.length) 1 with h5 | h5
          · have hj : j = k := by omega
            subst hj
            rw [h1, Nat.sub_self] at hq
            simp at hq
            subst hq
            refine ⟨cs', by rw [hcl, hC], hK, fun i u hu => ?_⟩
            have hi : i < P.cellsOf e := by rw [← hcl]; exact (List.getElem?_eq_some_iff.1 hu).1
            have := hcell i hi
            rw [Go.Deep.add_add, hC] at this
            rw [this, hu]
          · rw [List.getElem?_eq_none (by simpa using h5)] at hq; cases hq
      · intro x hx
        rcases List.mem_append.1 hx with hx | hx
        · exact h3 x hx
        · rw [List.mem_singleton.1 hx]; exact hw
      · have e2 : sumB bulk (xs ++ [p]) = sumB bulk xs + bulk p := by
          clear h1 h2 h3 h4
          induction xs with
          | nil => simp [sumB]
          | cons y ys ih2 => simp only [List.cons_append, sumB, ih2]; omega
        rw [e2, List.range_succ, List.map_append, bulkAll_append]
        simp only [List.map_cons, List.map_nil, Rows.uptoBulkAll]
        have hb2 : bulk p ≤ Rows.uptoBulk (D k) := hb
        omega
  obtain ⟨xs, h1, h2, h3, h4⟩ := key len (Nat.le_refl _)
  exact ⟨xs, h1, ⟨h1, hM, fun _ => ⟨a, rfl, h2⟩⟩, h3, h4⟩
theorem opens_slice {α : Type} {d : Kd α} {wf : α → Prop} {bulk : α → Nat} {t e : TypeId} (ht : P.underlying t = some (.slice e)) (hC : P.cellsOf e = d.sz) (ho : Opens P e d wf bulk) :
    Opens P t (Kd.slice e d) (fun xs => ∀ x, x ∈ xs → wf x) (fun xs => sumB bulk xs + 1) := by
  intro H enc w base spare held fuel cs x h
  rcases Go.Deep.open_slice ht h with ⟨rfl, rfl⟩ | ⟨a, len, cap, m, n, D, Pl, rfl, hb, hl, hm, hmm, rfl, hx⟩
  · exact ⟨[], ⟨none, 0, rfl, Nat.le_refl _, Kd.C_nil d w⟩, by simp, by simp [sumB, Rows.uptoBulk]⟩
  · obtain ⟨xs, h1, h2, h3, h4⟩ := slice_list ho hC hx len (by rw [hmm]; split <;> omega) (by simp only [maxLen] at hm; omega)
    subst h1
    refine ⟨xs, ⟨some a, cap, rfl, hl, h2⟩, h3, ?_⟩
    simp only [Rows.uptoBulk]
    omega
theorem arg_slice {α : Type} {d : Kd α} {wf : α → Prop} {bulk : α → Nat} {t e : TypeId} (ht : P.underlying t = some (.slice e)) (hC : P.cellsOf e = d.sz) (ho : Opens P e d wf bulk)
    {H : Type} {enc : TypeId × Value → H} {w : World} {base : Nat} {spare : Nat → Bool} {held : Bool} {v : Value} {data : DataW H} {ps : List MemPlace} {r : Reach} {b0 : Nat} (hv : Value.okWide P w r b0 t v) (h : DataW.Trod enc P w base spare held t v data ps) :
    ∃ A xs c, v = .slice A xs.length c ∧ xs.length ≤ c ∧ d.C w A xs.length xs ∧ (∀ x, x ∈ xs → wf x) ∧ sumB bulk xs + 1 ≤ Rows.uptoBulk data ∧
      (∀ (ts : List TypeId) (ds : List (DataW H)) (j B : Nat), (DataW.weightsEach P ts ds).all (· ≤ reachBytes) = true → ts[j]? = some t → ds[j]? = some data → P.bytesOf e = B → xs.length * B ≤ 140737488351232) := by
  obtain ⟨a0, len0, cap0, rfl⟩ := okWide_slice ht hv
  obtain ⟨fuel, hf⟩ := h
  rcases Go.Deep.open_slice ht hf with ⟨hcs, hx⟩ | ⟨a, len, cap, m, n, D, Pl, hcs, hb, hl, hm, hmm, hx, hi⟩
  · simp [Value.cells] at hcs
    obtain ⟨rfl, rfl, rfl⟩ := hcs
    obtain ⟨rfl, rfl⟩ := Prod.mk.inj hx
    exact ⟨none, [], 0, rfl, Nat.le_refl _, Kd.C_nil d w, by simp, by simp [sumB, Rows.uptoBulk], by simp⟩
  · simp [Value.cells] at hcs
    obtain ⟨rfl, rfl, rfl⟩ := hcs
    obtain ⟨rfl, rfl⟩ := Prod.mk.inj hx
    obtain ⟨xs, h1, h2, h3, h4⟩ := slice_list ho hC hi len0 (by rw [hmm]; split <;> omega) (by simp only [maxLen] at hm; omega)
    subst h1
    refine ⟨some a, xs, cap0, rfl, hl, h2, h3, by simp only [Rows.uptoBulk]; omega, ?_⟩
    intro ts ds j B hsz htj hdj hB
    have z := sized_slice hsz htj hdj ht
    rw [hB] at z
    have hr : reachBytes = 140737488351232 := by decide
    simp only [List.length_map, List.length_range] at z
    rw [hr] at z
    exact Nat.le_trans (Nat.mul_le_mul_right _ (by omega)) z
end
end Go.Proofs.YthffpkdadffinaaDoor.Od
namespace Go.Proofs.YthffpkdadffinaaDoor.Lsc
set_option linter.unusedVariables false
set_option linter.unusedSimpArgs false
open Go.Proofs.YthffpkdadffinaaDoor.Vd (decU)
open Go.Proofs.YthffpkdadffinaaDoor.Fr (K3 T3)
open Go.Proofs.YthffpkdadffinaaDoor.Dc (decT)
open Go.Proofs.YthffpkdadffinaaDoor.Ux (Bytes full dc rest1)
open Go.RowKit Go.Proofs.YthffpkdadffinaaDoorW.PrintWords Go.Proofs.YthffpkdadffinaaDoor.Hp Go.Proofs.YthffpkdadffinaaDoor.Fm Go.Proofs.YthffpkdadffinaaDoor.Ev0 Go.Proofs.YthffpkdadffinaaDoor.X Go.Proofs.YthffpkdadffinaaDoor.Va Go.Proofs.YthffpkdadffinaaDoor.Oa Go.Proofs.YthffpkdadffinaaDoor.Vp0 Go.Proofs.YthffpkdadffinaaDoor.Sga Go.Proofs.YthffpkdadffinaaDoor.Sgb Go.Proofs.YthffpkdadffinaaDoor.Sgc Go.Proofs.YthffpkdadffinaaDoor.Sgd Go.Proofs.YthffpkdadffinaaDoor.Sgp Go.Proofs.YthffpkdadffinaaDoor.Sgq Go.Proofs.YthffpkdadffinaaDoor.Sgz Go.Proofs.YthffpkdadffinaaDoor.Sgaa
theorem row_at {w : World} {A : Option Addr} {e : Nat} {xs : List (List Int)} (h : (Kd.slice e KB).C w A xs.length xs) (k : Nat) (hk : k < xs.length) :
    ∃ ad Ak ck, A = some ad ∧ w.cell? (ad.add k) = some (.slice Ak xs[k].length ck) ∧ xs[k].length ≤ ck ∧ KB.C w Ak xs[k].length xs[k] := by
  obtain ⟨ad, e1, hc⟩ := h.2.2 (by omega)
  obtain ⟨cs, hl, hK, hcell⟩ := hc k xs[k] (List.getElem?_eq_getElem hk)
  obtain ⟨Ak, ck, rfl, h1, h2⟩ := hK
  refine ⟨ad, Ak, ck, e1, ?_, h1, h2⟩
  have := hcell 0 _ rfl
  have e2 : k * (Kd.slice e KB).sz + 0 = k := by show k * 1 + 0 = k; omega
  rw [e2] at this
  exact this
theorem flat_sum (xs : List (List Int)) : xs.flatten.length ≤ Od.sumB (fun l => Od.sumB (fun _ => 1) l + 1) xs := by
  induction xs with
  | nil => simp [Od.sumB]
  | cons x l ih =>
    have := Od.sumB_len (bulk := fun _ : Int => 1) (fun _ => Nat.le_refl _) x
    simp only [List.flatten_cons, List.length_append, Od.sumB]
    omega
theorem flat_take (xs : List (List Int)) (k : Nat) : (xs.take k).flatten.length ≤ xs.flatten.length := by
  have : xs.flatten = (xs.take k).flatten ++ (xs.drop k).flatten := by rw [← List.flatten_append, List.take_append_drop]
  rw [this, List.length_append]
  omega
theorem flat_succ (xs : List (List Int)) (k : Nat) (hk : k < xs.length) : (xs.take (k + 1)).flatten = (xs.take k).flatten ++ xs[k] := by
  rw [List.take_succ_eq_append_getElem hk, List.flatten_append]
  simp
theorem flat_mem {xs : List (List Int)} (h : ∀ x, x ∈ xs → Bytes x) (k : Nat) : Bytes (xs.take k).flatten := by
  intro y hy
  obtain ⟨l, hl, hyl⟩ := List.mem_flatten.1 hy
  exact h l (List.mem_of_mem_take hl) y hyl
theorem SplitR (w : World) (A : Option Addr) (n c : Nat) (b : List Int) (lim : Int) (hC : KB.C w A n b) (hn : n = b.length) (hc : n ≤ c) (hB : Bytes b) (hl : n ≤ 10000000) (r : List SG) (e : Int) (hr : splitF lim b = (r, e)) :
    Calls Tryd.prog 21 #[.slice A n c, .int .i64 lim] w fun E w' => ∃ A' c', E = .returned (.tuple #[.slice A' r.length c', .int .i64 e]) ∧ r.length ≤ c' ∧ kG.C w' A' r.length r ∧ Below w.heap.size w w' := by
  subst hn
  obtain ⟨k, hk⟩ := Ev.rounds (Sgr.splitEv b hB hl lim)
  rw [hr] at hk
  refine (tremaref04_Split.calls k A c b lim r e w hC hc hk).mono ?_
  rintro E w' ⟨v, rfl, p1, p2⟩
  obtain ⟨A', c', rfl, hc', hC'⟩ := Kd.R_reads p1
  exact ⟨A', c', rfl, hc', hC', p2⟩
theorem SameSR (w : World) (A B : Option Addr) (n c m d : Nat) (l k : List SG) (hC : kG.C w A n l) (hn : n = l.length) (hc : n ≤ c) (hD : kG.C w B m k) (hm : m = k.length) (hd : m ≤ d) (hlk : k = l) (hl : n ≤ 100000000) :
    Calls Tryd.prog 17 #[.slice A n c, .slice B m d] w fun e w' => e = .returned (.bool true) ∧ Below w.heap.size w w' := by
  subst hlk hn hm
  obtain ⟨q, hq⟩ := Ev.rounds (Sgr.sameSEv k hl)
  exact (tremaref04_Same.calls q A c k B d k _ w hC hc hD hd hq).mono fun e w' ⟨h1, h2⟩ => ⟨h1, h2.below⟩
def St (lim : Int) (b : List Int) : List SG × List Int × Int × Int × Bool := tk lim (dc b 0).1 [] 0 0
theorem st_app (lim : Int) (b ys : List Int) (h : (St lim b).2.2.2.2 = false) :
    St lim (b ++ ys) = catT (St lim b).1 (tk lim (dc ((dc b 0).2.1 ++ ys) (dc b 0).2.2).1 (St lim b).2.1 (St lim b).2.2.1 (St lim b).2.2.2.1) := by
  unfold St at h ⊢
  rw [Ux.dc_append, tk_app, if_neg (by rw [h]; decide)]
theorem dc_app2 (b ys : List Int) : (dc (b ++ ys) 0).2 = (dc ((dc b 0).2.1 ++ ys) (dc b 0).2.2).2 := by rw [Ux.dc_append]
def Inv (w1 : World) (g gd : Nat) (lim : Int) (done : List Int) (allv toldv : Value) (wr : World) : Prop :=
  (St lim done).2.2.2.2 = false ∧ Seg w1 g gd lim (dc done 0).2.1 (dc done 0).2.2 false (St lim done).2.1 (St lim done).2.2.1 (St lim done).2.2.2.1 false 0 [rowT KB 5 w1.heap.size allv done, rowT kG TG w1.heap.size toldv (St lim done).1] wr
set_option maxRecDepth 100000 in
set_option maxHeartbeats 8000000 in
theorem chunks_no (w : World) (hG : G w) (A : Option Addr) (n c : Nat) (lim : Int) (A2 : Option Addr) (n2 c2 : Nat) (h : lim < 1 ∨ lim > 64) :
    Calls Tryd.prog 3 #[.slice A n c, .int .i64 lim, .slice A2 n2 c2] w fun e w' => e = .returned (.bool true) ∧ Below w.heap.size w w' := by
  have HN := fun W => Aside0.mk (NewNo W lim h)
  have HG := Aside0.mk hG
  clear hG
  rcases h with h | h
  · have hd : decide (lim < 1) = true := decide_eq_true h
    clear h
    go_enter Tryd.func3, Tryd.ntmps3
    go_wp2_with (first | (go_at_call 13; refine (Sgf.segFixedP w HG.out).mono ?_; rintro e w1 ⟨rfl, h1⟩; have H1 := Aside0.mk h1; clear h1) | (go_at_call 14; go_must (refine (HN w1).out.mono ?_; rintro e w2 ⟨rfl, rfl⟩)))
    go_ret
    exact ⟨rfl, H1.out⟩
  · have hd : decide (lim < 1) = false := decide_eq_false (by omega)
    have hd2 : decide (lim > 64) = true := decide_eq_true h
    have hd3 : decide (64 < lim) = true := hd2
    clear h
    go_enter Tryd.func3, Tryd.ntmps3
    go_wp2_with (first | (go_at_call 13; refine (Sgf.segFixedP w HG.out).mono ?_; rintro e w1 ⟨rfl, h1⟩; have H1 := Aside0.mk h1; clear h1) | (go_at_call 14; go_must (refine (HN w1).out.mono ?_; rintro e w2 ⟨rfl, rfl⟩)))
    go_ret
    exact ⟨rfl, H1.out⟩
theorem st_facts (lim : Int) (h1 : 1 ≤ lim) (b : List Int) (hB : Bytes b) (hl : b.length ≤ 1048576) :
    ((St lim b).2.1.length : Int) ≤ lim ∧ (∀ x ∈ (St lim b).2.1, I32 x) ∧ (St lim b).1.length ≤ 1048576 ∧ (dc b 0).2.1.length ≤ 3 ∧ (0 ≤ (dc b 0).2.2 ∧ (dc b 0).2.2 ≤ 1048576) ∧ Bytes (dc b 0).2.1 := by
  have hdl := Ux.dc_len b 0
  have hdr := Ux.dc_rest b 0
  have hff := dec_fine b.length b 0 hB (Int.le_refl _) (by omega)
  have hop := tk_open lim (by omega) (dc b 0).1 [] 0 0 (by simp; omega) (by simp) hff
  refine ⟨hop.1, hop.2.1, ?_, hdr.1, by omega, ?_⟩
  · have := hop.2.2.1
    show (tk lim (dc b 0).1 [] 0 0).1.length ≤ _
    omega
  · exact Dc.dc_bytes hB 0
set_option maxRecDepth 100000 in
set_option maxHeartbeats 8000000 in
theorem chunks (w : World) (hG : G w) (A : Option Addr) (xs : List (List Int)) (c : Nat) (hC : (Kd.slice 23 KB).C w A xs.length xs) (hc : xs.length ≤ c) (hw : ∀ x ∈ xs, Bytes x) (hF : xs.flatten.length ≤ 1048576)
    (lim : Int) (hl1 : 1 ≤ lim) (hl2 : lim ≤ 64) (A2 : Option Addr) (n2 c2 : Nat) :
    Calls Tryd.prog 3 #[.slice A xs.length c, .int .i64 lim, .slice A2 n2 c2] w fun e w' => e = .returned (.bool true) ∧ Below w.heap.size w w' := by
  have hm : xs.length ≤ 9223372036854775807 := hC.2.1
  obtain ⟨n, hn⟩ : ∃ n, n = xs.length := ⟨_, rfl⟩
  rw [← hn] at hm
  rw [← hn]
  have HN := Aside0.mk hn
  have HC := Aside0.mk hC
  have HF := Aside0.mk hF
  have HBY := Aside0.mk hw
  have HG := Aside0.mk hG
  clear hC hw hF hc hn hG
  go_enter Tryd.func3, Tryd.ntmps3
  go_wp2_with (first | (go_at_call 13; refine (Sgf.segFixedP w HG.out).mono ?_; rintro e w1 ⟨rfl, h1⟩; have H1 := Aside0.mk h1; clear h1) | (go_at_call 14; go_must (refine (NewOk (Sep.start (Below.refl _ w1)) lim hl1 hl2).mono ?_; rintro E w2 ⟨g, gd, rfl, p1⟩; have S0 := Aside0.mk (show Inv w1 g gd lim [] (.slice none 0 0) (.slice none 0 0) w2 from by obtain ⟨ov, hS⟩ := p1; exact ⟨rfl, ov, (hS.empty KB 5 w1.heap.size).empty kG TG w1.heap.size⟩); clear p1)))
  have HG1 := Aside0.mk (HG.out.below H1.out)
  go_loopw [9, 10, 55] (fun allv toldv i wr => ∃ k : Nat, k ≤ n ∧ i = .int .i64 k ∧ Aside0 (Inv w1 g gd lim (xs.take k).flatten allv toldv wr)) (fun _ _ i _ => n - (intOf i).toNat)
  case atStart => exact ⟨0, Nat.zero_le _, rfl, ⟨by simpa using S0.out⟩⟩
  case round =>
    clear S0
    obtain ⟨k, hk, rfl, HI⟩ := hrel
    by_cases hlt : k < n
    · have hd : decide (k < n) = true := by simpa using hlt
      have hkx : k < xs.length := by have := HN.out; omega
      obtain ⟨hbad, ov, hS⟩ := HI.out
      have hbl : Below w.heap.size w wr := below_then H1.out H1.out.size hS.below
      obtain ⟨ad, Ak, ck, rfl, hcell0, hlk, hrd⟩ := row_at HC.out k hkx
      have hcell := cell_later hbl hcell0
      have hys : Bytes xs[k] := HBY.out _ (List.getElem_mem hkx)
      have hsucc := flat_succ xs k hkx
      have hfl := flat_take xs (k + 1)
      have hF := HF.out
      have hdb := flat_mem HBY.out k
      obtain ⟨ys, hyy⟩ : ∃ ys, ys = xs[k] := ⟨_, rfl⟩
      rw [← hyy] at hcell0 hcell hlk hrd hys hsucc
      obtain ⟨done, hdn⟩ : ∃ done, done = (xs.take k).flatten := ⟨_, rfl⟩
      rw [← hdn] at hbad hS hsucc hdb
      rw [hsucc, List.length_append] at hfl
      have hdl : done.length ≤ 1048576 := by omega
      obtain ⟨f1, f2, f3, f4, f5, f6⟩ := st_facts lim hl1 done hdb hdl
      have happ := st_app lim done ys hbad
      have hdc2 := dc_app2 done ys
      obtain ⟨all, hall⟩ : ∃ all, all = done ++ ys := ⟨_, rfl⟩
      have halb : Bytes all := by rw [hall]; intro y hy; exact (List.mem_append.1 hy).elim (hdb y) (hys y)
      have hall2 : all.length ≤ 1048576 := by rw [hall, List.length_append]; omega
      obtain ⟨g1, g2, g3, g4, g5, g6⟩ := st_facts lim hl1 all halb hall2
      have hsure := sure_of lim all halb (by omega)
      rw [show tk lim (dc all 0).1 [] 0 0 = St lim all from rfl] at hsure
      rw [← hall] at happ hdc2
      obtain ⟨P, hP⟩ : ∃ P, P = St lim done := ⟨_, rfl⟩
      rw [← hP] at hbad hS f1 f2 f3 happ
      obtain ⟨told, o, a, e, bad⟩ := P
      simp only at hbad hS f1 f2 f3 happ
      subst hbad
      obtain ⟨kept, hkept⟩ : ∃ x, x = (dc done 0).2.1 := ⟨_, rfl⟩
      obtain ⟨dat, hdat⟩ : ∃ x, x = (dc done 0).2.2 := ⟨_, rfl⟩
      rw [← hkept, ← hdat] at happ hdc2 hS
      rw [← hkept] at f4 f6
      rw [← hdat] at f5
      obtain ⟨⟨pts, kept2, dat2⟩, hDC⟩ : ∃ D, D = dc (kept ++ ys) dat := ⟨_, rfl⟩
      rw [← hDC] at happ hdc2
      simp only at happ hdc2
      obtain ⟨⟨out, o2, a2, e2, bad2⟩, hR⟩ : ∃ R, R = tk lim pts o a e := ⟨_, rfl⟩
      rw [← hR] at happ
      have hst : St lim all = (told ++ out, o2, a2, e2, bad2) := happ
      rw [hst] at g1 g2 g3 hsure
      simp only at g1 g2 g3 hsure
      obtain ⟨La, hLa⟩ : ∃ La, La = all.length := ⟨_, rfl⟩
      have hLb : La ≤ 1048576 := by omega
      have hlen : La = done.length + ys.length := by rw [hLa, hall, List.length_append]
      have hobad : bad2 = true → o2 = [] := by
        intro hb
        have h := tk_open lim (by omega) (dc all 0).1 [] 0 0 (by simp; omega) (by simp) (dec_fine all.length all 0 halb (Int.le_refl _) (by omega))
        have h4 := h.2.2.2
        rw [show tk lim (dc all 0).1 [] 0 0 = St lim all from rfl, hst] at h4
        exact h4 hb
      have HLT := Aside0.mk (show (done.length + ys.length) * 1 ≤ 140737488355328 by omega)
      have HLT2 := Aside0.mk (show (told.length + out.length) * 32 ≤ 140737488355328 by rw [List.length_append] at g3; omega)
      have HBK := Aside0.mk (show Bytes (kept ++ ys) from fun y hy => (List.mem_append.1 hy).elim (f6 y) (hys y))
      have hkl : kept.length + ys.length ≤ 100000000 := by omega
      have hda : 0 ≤ dat ∧ dat ≤ 1000000000000 := by omega
      have HDA := Aside0.mk hda
      have HF1 := Aside0.mk f1
      have HF2 := Aside0.mk f2
      have HDC := Aside0.mk hDC.symm
      have HR := Aside0.mk hR
      have HST := Aside0.mk hst
      have HDC2 := Aside0.mk hdc2
      have HSU := Aside0.mk hsure
      have HOB := Aside0.mk hobad
      have HAL := Aside0.mk hall
      have HALB := Aside0.mk halb
      have HLA := Aside0.mk hLa
      have HSUC := Aside0.mk hsucc
      have HRD := Aside0.mk hrd
      have HBL := Aside0.mk hbl
      have HG3 := Aside0.mk g3
      have HG1b := Aside0.mk g1
      obtain ⟨ok1, hR1, hf1, hN1⟩ := Sep.row (d := KB) (e := 5) (base := w1.heap.size) (v := u9) (xs := done) hS 3 rfl
      have hszw := hS.below.size
      have HR1 := Aside0.mk hR1
      have HFF1 := Aside0.mk hf1
      have HN1 := Aside0.mk hN1
      clear hcell0 hys hsucc hfl hF hdb hdn hyy hdl f1 f2 f3 f4 f5 f6 happ hdc2 hall halb hall2 g1 g2 g3 g4 g5 g6 hsure hP hkept hdat hDC hR hst hLa hlen hobad hda hrd hbl hS HI hR1 hf1 hN1
      go_wp2_with (at_builtin; go_must (refine Kd.R_append_rows KB (Rr := KB.K wr) (w0 := wr) w1.heap.size rfl (.tmp 59) (.tmp 60) 23 5 (.int .u8 0) 1 rfl Tryd.underlying23 info5 rfl (by decide) (by decide) u9 done ys Ak ys.length ck ok1 (fun _ => False) rfl rfl HR1.out (Kd.C_below HRD.out HBL.out) (fun _ _ h => h) (fun _ h => h.elim) HFF1.out (Below.refl _ _) hszw HLT.out ?hh))
      case hh =>
        intro v1 w3 hR3 hb3 hg3 hat3
        have hS1 := HN1.out v1 w3 _ hR3 hg3
        rw [← HAL.out] at hS1
        have S1 := Aside0.mk (show Seg w1 g gd lim kept dat false o a e false 0 [rowT KB 5 w1.heap.size v1 all, rowT kG TG w1.heap.size u10 told] w3 from ⟨ov, hS1⟩)
        obtain ⟨Aa, ca, rfl, hca, _⟩ := Sep.reads (d := KB) (e := 5) (base := w1.heap.size) (v := v1) (xs := all) hS1 3 rfl
        rw [← HLA.out] at hca S1 ⊢
        have HCA := Aside0.mk hca
        have HB3 := Aside0.mk (below_then H1.out H1.out.size hS1.below)
        clear hS1 hR3 hb3 hg3 hat3 HR1 HFF1 HN1 hca
        have hlim50 : lim ≤ 50000000 := by omega
        go_wp2_with (first | (go_at_call 15; go_must (refine (WriteOk w1 HG1.out w3 g gd lim kept dat o a e _ S1.out Ak ys.length ck ys (Kd.C_below HRD.out HB3.out) HBK.out hkl HDA.out hlim50 HF1.out HF2.out pts kept2 dat2 HDC.out).mono ?_; rw [← HR.out]; rintro E w4 ⟨outv, rfl, ov4, hS4⟩; obtain ⟨A4, c4, rfl, hc4, hC4⟩ := Sep.reads (d := kG) (e := TG) (base := w1.heap.size) (v := outv) (xs := out) hS4 5 rfl; obtain ⟨ok2, hR2, hf2, hN2⟩ := Sep.row (d := kG) (e := TG) (base := w1.heap.size) (v := u10) (xs := told) hS4 4 rfl; have hs4 := hS4.below.size; have HC4 := Aside0.mk hC4; have HR2 := Aside0.mk hR2; have HFF2 := Aside0.mk hf2; have HN2 := Aside0.mk hN2; clear hC4 hR2 hf2 hN2 hS4)) | (at_builtin; go_must (refine Kd.R_append_rows kG (Rr := kG.K w4) (w0 := w4) w1.heap.size rfl (.tmp 68) (.tmp 69) 29 TG (.agg #[.string ⟨#[]⟩, .int .i64 0, .int .i64 0]) 32 rfl Tryd.underlying29 info67 rfl (by decide) (by decide) u10 told out A4 out.length c4 ok2 (fun _ => False) rfl rfl HR2.out HC4.out (fun x cs h => kG_KM x cs h) (fun _ h => h.elim) HFF2.out (Below.refl _ _) hs4 HLT2.out ?h2)))
        case h2 =>
          intro v5 w5 hR5 hb5 hg5 hat5
          have hS5 := HN2.out v5 w5 _ hR5 hg5
          obtain ⟨told2, htold2⟩ : ∃ t, t = told ++ out := ⟨_, rfl⟩
          have hS6 := hS5.init_ (blkT g (segCells gd lim ov4 a2 e2 false (errOf bad2)) TS :: rowT K3 T3 w1.heap.size ov4 o2 :: decT gd w1.heap.size kept2 dat2 false :: [rowT KB 5 w1.heap.size (.slice Aa La ca) all, rowT kG TG w1.heap.size v5 (told ++ out)]) _ rfl
          rw [← htold2] at hS6
          have hst := HST.out
          have hsu := HSU.out
          have hg3 := HG3.out
          rw [← htold2] at hst hsu hg3
          have HT2 := Aside0.mk htold2
          have S6 := Aside0.mk hS6
          obtain ⟨At, ct, rfl, hct, _⟩ := Sep.reads (d := kG) (e := TG) (base := w1.heap.size) (v := v5) (xs := told2) hS6 4 rfl
          obtain ⟨Ao, co, rfl, hco, _⟩ := Sep.reads (d := K3) (e := T3) (base := w1.heap.size) (v := ov4) (xs := o2) hS6 1 rfl
          obtain ⟨T, hT⟩ : ∃ T, T = told2.length := ⟨_, rfl⟩
          obtain ⟨O, hO⟩ : ∃ O, O = o2.length := ⟨_, rfl⟩
          rw [← hT] at hct S6 hg3 ⊢
          rw [← hO] at hco S6 hsu
          have HT := Aside0.mk hT
          have HO := Aside0.mk hO
          have HCT := Aside0.mk hct
          have HCO := Aside0.mk hco
          have HST2 := Aside0.mk hst
          have HSU2 := Aside0.mk hsu
          clear hst hsu hct hco hT hO htold2 hS5 hS6 hR5 hb5 hg5 hat5 HR2 HFF2 HN2 HC4 HST HSU S1 HG3
          have hw6 : Sep w1 _ w5 := S6.out
          have HSR := Aside0.mk (SureR w5 Aa La ca all lim (Sep.rows (d := KB) (e := 5) (base := w1.heap.size) (xs := all) S6.out 3 rfl).2.2 HLA.out HCA.out HALB.out (by omega))
          rw [HSU2.out] at HSR
          clear hw6
          cases bad2 with
          | true =>
            obtain rfl : o2 = [] := HOB.out rfl
            obtain rfl : O = 0 := HO.out
            have hSR := HSR.out
            simp only [if_true] at hSR
            have HSR2 := Aside0.mk hSR
            have h6 : errOf true = 6 := rfl
            have ha : ans false 6 = 6 := rfl
            clear HSR HSU2 hSR
            go_upto_region 15 with (go_at_call 16; go_must (refine HSR2.out.mono ?_; rintro E w6 ⟨A6, c6, rfl, hc6, p0, p1⟩; rw [← HT.out] at hc6 p0 ⊢; have C6 := Aside0.mk p0; have S7 := Aside0.mk (S6.out.later p1); clear p0 p1))
            go_wp2_with (first | (go_at_call 17; go_must (refine (SameSR w6 At A6 T ct T c6 told2 told2 (Sep.rows (d := kG) (e := TG) (base := w1.heap.size) (xs := told2) S7.out 4 rfl).2.2 HT.out HCT.out C6.out HT.out hc6 rfl (by omega)).mono ?_; rintro E w7 ⟨rfl, p1⟩; have S8 := Aside0.mk (S7.out.later p1); clear p1)) | (go_at_call 18; go_must (refine (PendR (S8.out.blk 0 rfl).1).mono ?_; rintro E w8 ⟨rfl, rfl⟩)) | (go_at_call 19; go_must (refine (ErrR (S8.out.blk 0 rfl).1).mono ?_; rintro E w8 ⟨rfl, rfl⟩)) | (go_at_call 15; go_must (refine (WriteEnd (S8.out.blk 0 rfl).1 (by decide) _ _ _).mono ?_; rintro E w8 ⟨rfl, rfl⟩)) | (go_at_call 20; go_must (refine (CloseEnd (S8.out.blk 0 rfl).1 (by decide)).mono ?_; rintro E w8 ⟨rfl, rfl⟩)))
            go_ret
            exact ⟨rfl, below_then H1.out H1.out.size S8.out.below⟩
          | false =>
            have hSR := HSR.out
            simp only [Bool.false_eq_true, if_false] at hSR
            have HSR2 := Aside0.mk hSR
            have h6 : errOf false = 0 := rfl
            clear HSR HSU2 hSR
            go_upto_region 15 with (go_at_call 16; go_must (refine HSR2.out.mono ?_; rintro E w6 ⟨A6, c6, rfl, hc6, p0, p1⟩; rw [← HT.out] at hc6 p0 ⊢; have C6 := Aside0.mk p0; have S7 := Aside0.mk (S6.out.later p1); clear p0 p1))
            go_wp2_with (first | (go_at_call 17; go_must (refine (SameSR w6 At A6 T ct T c6 told2 told2 (Sep.rows (d := kG) (e := TG) (base := w1.heap.size) (xs := told2) S7.out 4 rfl).2.2 HT.out HCT.out C6.out HT.out hc6 rfl (by omega)).mono ?_; rintro E w7 ⟨rfl, p1⟩; have S8 := Aside0.mk (S7.out.later p1); clear p1)) | (go_at_call 18; go_must (refine (PendR (S8.out.blk 0 rfl).1).mono ?_; rintro E w8 ⟨rfl, rfl⟩)) | (go_at_call 19; go_must (refine (ErrR (S8.out.blk 0 rfl).1).mono ?_; rintro E w8 ⟨rfl, rfl⟩)))
            go_roundw
            case rel =>
              refine ⟨k + 1, by omega, by go_num, ⟨?_⟩⟩
              rw [HSUC.out, ← HAL.out]
              unfold Inv
              rw [HST2.out, HDC2.out]
              exact ⟨rfl, _, S8.out⟩
            case measure => simp [intOf]; omega
    · have hd : decide (k < n) = false := by simpa using hlt
      have hkn : (xs.take k).flatten = xs.flatten := by rw [List.take_of_length_le (by have := HN.out; omega)]
      obtain ⟨all, hall⟩ : ∃ all, all = xs.flatten := ⟨_, rfl⟩
      rw [hkn, ← hall] at HI
      have halb := flat_mem HBY.out k
      rw [hkn, ← hall] at halb
      have hF := HF.out
      rw [← hall] at hF
      obtain ⟨hbad, ov, hS⟩ := HI.out
      obtain ⟨f1, f2, f3, f4, f5, f6⟩ := st_facts lim hl1 all halb hF
      have hsg : segs lim all = if (St lim all).2.2.2.2 = true then St lim all else catT (St lim all).1 (tk lim (rest1 (dc all 0).2.1 (dc all 0).2.2) (St lim all).2.1 (St lim all).2.2.1 (St lim all).2.2.2.1) := by
        unfold segs St
        rw [show full all = (dc all 0).1 ++ rest1 (dc all 0).2.1 (dc all 0).2.2 from rfl, tk_app]
      have hsp : splitF lim all = (fin (segs lim all), errOf (segs lim all).2.2.2.2) := by unfold splitF; rw [if_neg (by omega)]
      have hspl := Sgr.splitF_len all halb (by omega) lim
      obtain ⟨P, hP⟩ : ∃ P, P = St lim all := ⟨_, rfl⟩
      rw [← hP] at hbad hS f1 f2 f3 hsg
      obtain ⟨told, o, a, e, bad⟩ := P
      simp only at hbad hS f1 f2 f3 hsg
      subst hbad
      simp only [Bool.false_eq_true, if_false] at hsg
      obtain ⟨kept, hkept⟩ : ∃ x, x = (dc all 0).2.1 := ⟨_, rfl⟩
      obtain ⟨dat, hdat⟩ : ∃ x, x = (dc all 0).2.2 := ⟨_, rfl⟩
      rw [← hkept, ← hdat] at hS hsg
      rw [← hkept] at f4
      rw [← hdat] at f5
      obtain ⟨R, hR⟩ : ∃ R, R = tk lim (rest1 kept dat) o a e := ⟨_, rfl⟩
      rw [← hR] at hsg
      have hsp2 : splitF lim all = (told ++ fin R, errOf R.2.2.2.2) := by rw [hsp, hsg, fin_cat]; rfl
      rw [hsp2] at hspl
      simp only at hspl
      obtain ⟨La, hLa⟩ : ∃ La, La = all.length := ⟨_, rfl⟩
      have hLb : La ≤ 1048576 := by omega
      have hlim50 : lim ≤ 50000000 := by omega
      have hlim0 : 0 ≤ lim := by omega
      have hkl : kept.length ≤ 100000000 := by omega
      have hda : 0 ≤ dat ∧ dat ≤ 1000000000000 := by omega
      obtain ⟨r3, hr3⟩ : ∃ r, r = fin R := ⟨_, rfl⟩
      obtain ⟨bad3, hb3⟩ : ∃ b, b = R.2.2.2.2 := ⟨_, rfl⟩
      rw [← hr3] at hspl
      rw [← hr3, ← hb3] at hsp2
      have HCP := Aside0.mk (CloseOk w1 HG1.out wr g gd lim kept dat o a e _ (show Seg w1 g gd lim kept dat false o a e false 0 [rowT KB 5 w1.heap.size u9 all, rowT kG TG w1.heap.size u10 told] wr from ⟨ov, hS⟩) hkl hda hlim0 hlim50 f1 f2)
      rw [← hR] at HCP
      have HLT2 := Aside0.mk (show (told.length + r3.length) * 32 ≤ 140737488355328 by rw [List.length_append] at hspl; omega)
      have HSPL := Aside0.mk hspl
      have HSP2 := Aside0.mk hsp2
      have HLA := Aside0.mk hLa
      have HALB := Aside0.mk halb
      have HR3 := Aside0.mk hr3
      have HB3 := Aside0.mk hb3
      clear hkn hall halb hF hS f1 f2 f3 f4 f5 f6 hsg hsp hspl hP hkept hdat hR hsp2 hLa hr3 hb3 hkl hda HI
      go_wp2_with (first | (go_at_call 20; go_must (refine HCP.out.mono ?_; unfold ClosePost; rw [← HR3.out, ← HB3.out]; rintro E w4 ⟨outv, rfl, ov4, hS4⟩; obtain ⟨A4, c4, rfl, hc4, hC4⟩ := Sep.reads (d := kG) (e := TG) (base := w1.heap.size) (v := outv) (xs := r3) hS4 5 rfl; obtain ⟨ok2, hR2, hf2, hN2⟩ := Sep.row (d := kG) (e := TG) (base := w1.heap.size) (v := u10) (xs := told) hS4 4 rfl; have hs4 := hS4.below.size; have HC4 := Aside0.mk hC4; have HR2 := Aside0.mk hR2; have HFF2 := Aside0.mk hf2; have HN2 := Aside0.mk hN2; clear hC4 hR2 hf2 hN2 hS4)) | (at_builtin; go_must (refine Kd.R_append_rows kG (Rr := kG.K w4) (w0 := w4) w1.heap.size rfl (.tmp 141) (.tmp 142) 29 TG (.agg #[.string ⟨#[]⟩, .int .i64 0, .int .i64 0]) 32 rfl Tryd.underlying29 info67 rfl (by decide) (by decide) u10 told r3 A4 r3.length c4 ok2 (fun _ => False) rfl rfl HR2.out HC4.out (fun x cs h => kG_KM x cs h) (fun _ h => h.elim) HFF2.out (Below.refl _ _) hs4 HLT2.out ?h2)))
      case h2 =>
        intro v5 w5 hR5 hb5 hg5 hat5
        have hS5 := HN2.out v5 w5 _ hR5 hg5
        obtain ⟨told2, htold2⟩ : ∃ t, t = told ++ r3 := ⟨_, rfl⟩
        have hS6 := hS5.init_ (blkT g (segCells gd lim ov4 R.2.2.1 R.2.2.2.1 true (errOf bad3)) TS :: rowT K3 T3 w1.heap.size ov4 [] :: decT gd w1.heap.size [] dat true :: [rowT KB 5 w1.heap.size u9 all, rowT kG TG w1.heap.size v5 (told ++ r3)]) _ rfl
        rw [← htold2] at hS6
        have hsp2 := HSP2.out
        have hspl := HSPL.out
        rw [← htold2] at hsp2 hspl
        have S6 := Aside0.mk hS6
        obtain ⟨Aa, ca, rfl, hca, _⟩ := Sep.reads (d := KB) (e := 5) (base := w1.heap.size) (v := u9) (xs := all) hS6 3 rfl
        obtain ⟨At, ct, rfl, hct, _⟩ := Sep.reads (d := kG) (e := TG) (base := w1.heap.size) (v := v5) (xs := told2) hS6 4 rfl
        obtain ⟨Ao, co, rfl, hco, _⟩ := Sep.reads (d := K3) (e := T3) (base := w1.heap.size) (v := ov4) (xs := []) hS6 1 rfl
        obtain ⟨T, hT⟩ : ∃ T, T = told2.length := ⟨_, rfl⟩
        rw [← HLA.out] at hca S6 ⊢
        rw [← hT] at hct S6 hspl ⊢
        have HT := Aside0.mk hT
        have HCT := Aside0.mk hct
        have HCA := Aside0.mk hca
        have HSR := Aside0.mk (SplitR w5 Aa La ca all lim (Sep.rows (d := KB) (e := 5) (base := w1.heap.size) (xs := all) S6.out 3 rfl).2.2 HLA.out HCA.out HALB.out (by omega) told2 (errOf bad3) hsp2)
        have hTl : T ≤ 1048576 := by have := HLA.out; omega
        clear hsp2 hspl hct hca hco hT htold2 hS5 hS6 hR5 hb5 hg5 hat5 HR2 HFF2 HN2 HC4 HSP2 HSPL HCP
        cases bad3 with
        | true =>
          have h6 : errOf true = 6 := rfl
          have ha : ans true 6 = 6 := rfl
          go_wp2_with (first | (go_at_call 21; go_must (refine HSR.out.mono ?_; rintro E w6 ⟨A6, c6, rfl, hc6, p0, p1⟩; rw [← HT.out] at hc6 p0 ⊢; have C6 := Aside0.mk p0; have S7 := Aside0.mk (S6.out.later p1); clear p0 p1)) | (go_at_call 15; go_must (refine (WriteEnd (S7.out.blk 0 rfl).1 (by decide) _ _ _).mono ?_; rintro E w8 ⟨rfl, rfl⟩)) | (go_at_call 20; go_must (refine (CloseEnd (S7.out.blk 0 rfl).1 (by decide)).mono ?_; rintro E w8 ⟨rfl, rfl⟩)) | (go_at_call 17; go_must (refine (SameSR w6 At A6 T ct T c6 told2 told2 (Sep.rows (d := kG) (e := TG) (base := w1.heap.size) (xs := told2) S7.out 4 rfl).2.2 HT.out HCT.out C6.out HT.out hc6 rfl (by omega)).mono ?_; rintro E w7 ⟨rfl, p1⟩; have S8 := Aside0.mk (S7.out.later p1); clear p1)) | (go_at_call 18; go_must (refine (PendR (S8.out.blk 0 rfl).1).mono ?_; rintro E w8 ⟨rfl, rfl⟩)) | (go_at_call 19; go_must (refine (ErrR (S8.out.blk 0 rfl).1).mono ?_; rintro E w8 ⟨rfl, rfl⟩)))
          go_ret
          exact ⟨rfl, below_then H1.out H1.out.size S8.out.below⟩
        | false =>
          have h6 : errOf false = 0 := rfl
          have ha : ans true 0 = 8 := rfl
          go_wp2_with (first | (go_at_call 21; go_must (refine HSR.out.mono ?_; rintro E w6 ⟨A6, c6, rfl, hc6, p0, p1⟩; rw [← HT.out] at hc6 p0 ⊢; have C6 := Aside0.mk p0; have S7 := Aside0.mk (S6.out.later p1); clear p0 p1)) | (go_at_call 15; go_must (refine (WriteEnd (S7.out.blk 0 rfl).1 (by decide) _ _ _).mono ?_; rintro E w8 ⟨rfl, rfl⟩)) | (go_at_call 20; go_must (refine (CloseEnd (S7.out.blk 0 rfl).1 (by decide)).mono ?_; rintro E w8 ⟨rfl, rfl⟩)) | (go_at_call 17; go_must (refine (SameSR w6 At A6 T ct T c6 told2 told2 (Sep.rows (d := kG) (e := TG) (base := w1.heap.size) (xs := told2) S7.out 4 rfl).2.2 HT.out HCT.out C6.out HT.out hc6 rfl (by omega)).mono ?_; rintro E w7 ⟨rfl, p1⟩; have S8 := Aside0.mk (S7.out.later p1); clear p1)) | (go_at_call 18; go_must (refine (PendR (S8.out.blk 0 rfl).1).mono ?_; rintro E w8 ⟨rfl, rfl⟩)) | (go_at_call 19; go_must (refine (ErrR (S8.out.blk 0 rfl).1).mono ?_; rintro E w8 ⟨rfl, rfl⟩)))
          go_ret
          exact ⟨rfl, below_then H1.out H1.out.size S8.out.below⟩
end Go.Proofs.YthffpkdadffinaaDoor.Lsc
namespace Go.Proofs.YthffpkdadffinaaDoor.X
set_option linter.unusedVariables false
set_option linter.unusedSimpArgs false
open Go.RowKit Go.Proofs.YthffpkdadffinaaDoorW.PrintWords Go.Proofs.YthffpkdadffinaaDoor.Vp0
def tremalaw04_SegChunks.f (xs : List (List Int)) (_lim : Int) (_late : List Int) : Option Bool := if xs.all bytesB = true ∧ xs.flatten.length ≤ 1048576 then some true else none
theorem tremalaw04_SegChunks.calls (A0 : Option Addr) (c0 : Nat) (xs : List (List Int)) (lim : Int) (A1 : Option Addr) (c1 : Nat) (late : List Int) (r : Bool) (w : World) (hr0 : Kd.C (Kd.slice 23 (Kd.int .u8)) w A0 xs.length xs) (hc0 : xs.length ≤ c0) (hr1 : Kd.C (Kd.int .u8) w A1 late.length late) (hc1 : late.length ≤ c1) (h : tremalaw04_SegChunks.f xs lim late = some r) (hG0 : Va.G w) :
  Calls Tryd.prog 3 #[.slice A0 xs.length c0, .int .i64 lim, .slice A1 late.length c1] w fun e w' => e = .returned (.bool r) ∧ Below w.heap.size w w' := by
  unfold tremalaw04_SegChunks.f at h
  split at h
  · rename_i hh
    cases Option.some.inj h
    by_cases hl : lim < 1 ∨ lim > 64
    · exact Lsc.chunks_no w hG0 A0 xs.length c0 lim A1 late.length c1 hl
    · exact Lsc.chunks w hG0 A0 xs c0 hr0 hc0 (fun x hx => bytesB_of (List.all_eq_true.1 hh.1 x hx)) hh.2 lim (by omega) (by omega) A1 late.length c1
  · cases h
theorem tremalaw04_SegChunks.pure (xs : List (List Int)) (hwf : ∀ x ∈ xs, ∀ y ∈ x, (Lit.int .u8 y).wf = true) (hl : Od.sumB (fun l => Od.sumB (fun _ => 1) l + 1) xs ≤ 1048576) (lim : Int) (hlw : (Lit.int .i64 lim).wf = true) (late : List Int) (hw2 : ∀ y ∈ late, (Lit.int .u8 y).wf = true) (hl2 : late.length ≤ 1048576) : tremalaw04_SegChunks.f xs lim late = some true := by
  unfold tremalaw04_SegChunks.f
  rw [if_pos ⟨List.all_eq_true.2 fun x hx => Sgr.bytesB_mk (Ot.wf_bytes (hwf x hx)), Nat.le_trans (Lsc.flat_sum xs) hl⟩]
end Go.Proofs.YthffpkdadffinaaDoor.X
namespace Go.Proofs.YthffpkdadffinaaDoor.Lv
set_option linter.unusedVariables false
set_option linter.unusedSimpArgs false
open Go.ChangeShapes Go.WideShapes Go.ChangeAt Go.RowKit Go.Proofs.YthffpkdadffinaaDoorW.PrintWords Go.Proofs.YthffpkdadffinaaDoor.Va
theorem ints_of_array {H : Type} {enc : TypeId × Value → H} {P : Program} {w : World} {base : Nat} {sp : Nat → Bool} {held : Bool} {fuel : Nat} {t e : TypeId} {k : IntKind} {n : Nat} {cs : List Value} {l : List Int} {p : List MemPlace}
    (ht : P.underlying t = some (.array n e)) (he : P.underlying e = some (.int k)) (hC : P.cellsOf e = 1) (hT : P.cellsOf t = n) (h : DataW.trod enc P w base sp held fuel t cs = some (.agg (l.map fun x => .lit (.int k x)), p)) : cs = nums k l := by
  obtain ⟨xs, m, -, hx, hl, hxl, hi⟩ := DataW.trod_array ht h
  obtain ⟨hx1, -⟩ := Prod.mk.inj hx
  injection hx1 with hx1
  have hln : l.length = n := by have := congrArg List.length hx1; simpa [hxl] using this
  rw [hT] at hl
  unfold nums
  refine List.ext_getElem (by simp [hl, hln]) fun i h1 h2 => ?_
  have hin : i < n := by omega
  have hxi := hi i hin
  rw [hC, Nat.mul_one, List.getElem?_eq_getElem (by omega : i < xs.length)] at hxi
  obtain ⟨z, e1, e2, -⟩ := DataW.trod_int he hxi
  have e3 : (xs[i]'(by omega)).1 = DataW.lit (.int k (l[i]'(by omega))) := by
    have := congrArg (fun q => q[i]?) hx1
    simp [List.getElem?_eq_getElem (show i < l.length by omega), List.getElem?_eq_getElem (show i < xs.length by omega)] at this
    exact this.symm
  rw [e2] at e3
  injection e3 with e3
  injection e3 with _ e3
  have e4 : cs[i]'h1 = .int k z := by
    rw [List.drop_eq_getElem_cons h1, List.take_succ_cons, List.take_zero] at e1
    exact (List.cons.inj e1).1
  rw [e4, List.getElem_map, e3]
theorem triples_of_array {H : Type} {enc : TypeId × Value → H} {P : Program} {w : World} {base : Nat} {sp : Nat → Bool} {held : Bool} {fuel : Nat} {t e e3 : TypeId} {n : Nat} {cs : List Value} {l : List (Int × Int × Int)} {p : List MemPlace}
    (ht : P.underlying t = some (.array n e)) (he : P.underlying e = some (.array 3 e3)) (he3 : P.underlying e3 = some (.int .i32)) (hC3 : P.cellsOf e3 = 1) (hC : P.cellsOf e = 3) (hT : P.cellsOf t = n * 3) (h : DataW.trod enc P w base sp held fuel t cs = some (.agg (l.map fun x => .agg ([x.1, x.2.1, x.2.2].map fun y => .lit (.int .i32 y))), p)) : cs = cells3 l := by
  obtain ⟨xs, m, -, hx, hl, hxl, hi⟩ := DataW.trod_array ht h
  obtain ⟨hx1, -⟩ := Prod.mk.inj hx
  injection hx1 with hx1
  have hln : l.length = n := by have := congrArg List.length hx1; simpa [hxl] using this
  rw [hT] at hl
  have key : ∀ i (hin : i < l.length), (cs.drop (i * 3)).take 3 = nums .i32 [l[i].1, l[i].2.1, l[i].2.2] := by
    intro i hin
    have hxi := hi i (by omega)
    rw [hC, List.getElem?_eq_getElem (by omega : i < xs.length)] at hxi
    have e3' : (xs[i]'(by omega)).1 = DataW.agg ([l[i].1, l[i].2.1, l[i].2.2].map fun y => .lit (.int .i32 y)) := by
      have := congrArg (fun q => q[i]?) hx1
      simp [List.getElem?_eq_getElem (show i < l.length by omega), List.getElem?_eq_getElem (show i < xs.length by omega)] at this
      exact this.symm
    rw [show xs[i]'(by omega) = ((xs[i]'(by omega)).1, (xs[i]'(by omega)).2) from rfl, e3'] at hxi
    exact ints_of_array he he3 hC3 hC hxi
  clear hi hx1 hx hxl ht h
  have go : ∀ (l : List (Int × Int × Int)) (cs : List Value), cs.length = l.length * 3 → (∀ i (hin : i < l.length), (cs.drop (i * 3)).take 3 = nums .i32 [l[i].1, l[i].2.1, l[i].2.2]) → cs = cells3 l := by
    intro l
    induction l with
    | nil => intro cs h1 _; exact List.eq_nil_of_length_eq_zero (by simpa using h1)
    | cons x r ih =>
      intro cs h1 h2
      have h0 := h2 0 (by simp)
      have hr := ih (cs.drop 3) (by rw [List.length_drop, h1]; simp; omega) (fun i hin => by
        have := h2 (i + 1) (by simp; omega)
        rw [List.drop_drop, show 3 + i * 3 = (i + 1) * 3 by omega]
        exact this)
      rw [Nat.zero_mul, List.drop_zero] at h0
      rw [← List.take_append_drop 3 cs, h0, hr]
      rfl
  exact go l cs (by omega) key
abbrev laid : List (String × DataW Unit) := [("trema/ucd.classes", Rows.laid_trema_ucd_classes), ("trema/ucd.pairs", Rows.laid_trema_ucd_pairs), ("trema/ucd.marks", Rows.laid_trema_ucd_marks)]
theorem d0 : (Rows.laid_trema_ucd_classes : DataW Unit) = .agg (clsT.map fun x => .agg ([x.1, x.2.1, x.2.2].map fun y => .lit (.int .i32 y))) := by kernel_rfl
theorem d1 : (Rows.laid_trema_ucd_pairs : DataW Unit) = .agg (prsT.map fun x => .agg ([x.1, x.2.1, x.2.2].map fun y => .lit (.int .i32 y))) := by kernel_rfl
theorem d2 : (Rows.laid_trema_ucd_marks : DataW Unit) = .agg (mksT.map fun y => .lit (.int .i32 y)) := by kernel_rfl
theorem door_met (os : Os) (args : Array Value) : laidMetH Tryd.prog laid ((World.doorLaid Tryd.prog 400 os).forCall (fun _ _ => 0) ⟨#[], args, []⟩).memory :=
  laidMetH_of_parts3 (fuel := 8) (laidMet_of_run' 8 (by kernel_rfl) (by kernel_rfl)) (by kernel_rfl) (by kernel_rfl)
theorem of_laid {W : World} (h : laidMetH Tryd.prog laid W) : G W := by
  rw [MakeChecks.laidMetH_plain _ _ _ (by kernel_rfl)] at h
  obtain ⟨ps, ⟨g0, t0, cs0, f0, p0, q0, hg0, ht0, hv0, hd0, ⟨g1, t1, cs1, f1, p1, q1, hg1, ht1, hv1, hd1, ⟨g2, t2, cs2, f2, p2, q2, hg2, ht2, hv2, hd2, _, _⟩, _⟩, _⟩, _, _⟩ := h
  obtain rfl := Option.some.inj ((show Tryd.prog.globalNamed "trema/ucd.classes" = some 1 by kernel_rfl).symm.trans hg0)
  obtain rfl := Option.some.inj ((show Tryd.prog.globalNamed "trema/ucd.pairs" = some 0 by kernel_rfl).symm.trans hg1)
  obtain rfl := Option.some.inj ((show Tryd.prog.globalNamed "trema/ucd.marks" = some 2 by kernel_rfl).symm.trans hg2)
  obtain rfl := Option.some.inj ((show (Tryd.prog.globals[1]?).map (·.type) = some 113 by kernel_rfl).symm.trans ht0)
  obtain rfl := Option.some.inj ((show (Tryd.prog.globals[0]?).map (·.type) = some 111 by kernel_rfl).symm.trans ht1)
  obtain rfl := Option.some.inj ((show (Tryd.prog.globals[2]?).map (·.type) = some 123 by kernel_rfl).symm.trans ht2)
  rw [d0] at hd0
  rw [d1] at hd1
  rw [d2] at hd2
  have c0 := triples_of_array Tryd.underlying113 Tryd.underlying110 Tryd.underlying21 (by kernel_rfl) (by kernel_rfl) (by kernel_rfl) hd0
  have c1 := triples_of_array Tryd.underlying111 Tryd.underlying110 Tryd.underlying21 (by kernel_rfl) (by kernel_rfl) (by kernel_rfl) hd1
  have c2 := ints_of_array Tryd.underlying123 Tryd.underlying21 (by kernel_rfl) (by kernel_rfl) hd2
  refine ⟨fun j v hv => ?_, fun j v hv => ?_, fun j v hv => ?_⟩
  · have := World.var?_cell hg0 hv0 j
    rw [← Array.getElem?_toList, c0, hv] at this
    simpa using this
  · have := World.var?_cell hg1 hv1 j
    rw [← Array.getElem?_toList, c1, hv] at this
    simpa using this
  · have := World.var?_cell hg2 hv2 j
    rw [← Array.getElem?_toList, c2, hv] at this
    simpa using this
end Go.Proofs.YthffpkdadffinaaDoor.Lv
namespace Go.Proofs.YthffpkdadffinaaDoor.segChunks
open Go.ChangeShapes Go.WideShapes Go.ChangeAt Go.RowKit
open Go.ChangeMaps (open_string shut_string)
set_option linter.unusedVariables false
set_option linter.unusedSimpArgs false
theorem own : ownKnob Tryd.prog.godebug = none := by kernel_rfl
theorem laidOut : laidOutB Tryd.prog = true := by kernel_rfl
set_option maxRecDepth 100000 in
theorem contract (H : Type) (enc : TypeId × Value → H) (W : World) (base : Nat) (args : Array Value) (ds gs : List (DataW H)) (before : List MemPlace)
    (hval0 : ∀ (j : Nat) t v, Tryd.f3.params[j]? = some t → args[j]? = some v → Value.okWide Tryd.prog W .any base t v)
    (hW : DataW.Whole enc Tryd.prog Tryd.f3.params.toList Rows.segChunksSpec.vars false W args.toList ds gs before)
    (hL : laidMetH Tryd.prog Lv.laid W)
    (hk0 : Rows.uptoSmall H (ds ++ gs) = true) :
    Calls Tryd.prog 3 args W fun e W' => ∃ v, e = .returned v ∧ Rows.segChunksSpec.post enc Tryd.prog Tryd.f3 false true false false W args v W' := by
  have hkb : Rows.uptoBulkAll (ds ++ gs) ≤ 1048576 := of_decide_eq_true hk0
  have hval : ∀ (j : Nat) t v, Tryd.f3.params[j]? = some t → args[j]? = some v → Value.okWide Tryd.prog W .any base t v := hval0
  have hW' := hW
  obtain ⟨p, q, hA0, hV, rfl, hfz, hnd⟩ := hW
  have hA : DataW.TrodAll enc Tryd.prog W 0 (fun _ => true) true Tryd.f3.params.toList args.toList ds p := hA0
  rw [Tryd.params3] at hA hval
  obtain ⟨v0, vs0, d0, ds0, p0, q0, hargs, rfl, rfl, h0, r0⟩ := trodAll_cons hA
  obtain ⟨v1, vs1, d1, ds1, p1, q1, rfl, rfl, rfl, h1, r1⟩ := trodAll_cons r0
  obtain ⟨v2, vs2, d2, ds2, p2, q2, rfl, rfl, rfl, h2, r2⟩ := trodAll_cons r1
  obtain ⟨rfl, rfl, rfl⟩ := trodAll_nil r2
  obtain rfl : args = #[v0, v1, v2] := by cases args; simp_all
  obtain ⟨rfl, rfl⟩ := trodVars_none hV
  have k0 := h0
  have lt0 : ∀ x ∈ p0, x.block < W.heap.size := by obtain ⟨m, hm⟩ := k0; exact DataW.trod_lt m _ _ _ hm
  obtain ⟨A0, xs0, c0, rfl, hc0, hC0, hw0, hb0, hz0⟩ := Od.arg_slice Tryd.underlying22 (by kernel_rfl) (Od.opens_slice Tryd.underlying23 (by kernel_rfl) (Od.opens_int Tryd.underlying5)) (hval 0 22 v0 rfl rfl) h0
  obtain ⟨a1, rfl, rfl, rfl, w1⟩ := open_int Tryd.underlying3 (hval 1 3 v1 rfl rfl) h1
  have k2 := h2
  have lt2 : ∀ x ∈ p2, x.block < W.heap.size := by obtain ⟨m, hm⟩ := k2; exact DataW.trod_lt m _ _ _ hm
  obtain ⟨A2, xs2, c2, rfl, hc2, hC2, hw2, hb2, hz2⟩ := Od.arg_slice Tryd.underlying23 (by kernel_rfl) (Od.opens_int Tryd.underlying5) (hval 2 23 v2 rfl rfl) h2
  simp only [List.append_nil, Rows.uptoBulkAll] at hkb
  have hB0 := Nat.le_trans (Nat.le_trans (Nat.le_succ _) hb0) (show Rows.uptoBulk d0 ≤ 1048576 by omega)
  have hB2 := Nat.le_trans (Nat.le_trans (Nat.le_succ _) hb2) (show Rows.uptoBulk d2 ≤ 1048576 by omega)
  clear hA0 hval0 hk0
  have hk := Go.Proofs.YthffpkdadffinaaDoor.X.tremalaw04_SegChunks.pure xs0 hw0 hB0 a1 w1 xs2 hw2 (Nat.le_trans (Od.sumB_len (fun _ => Nat.le_refl _) _) hB2)
  refine (Go.Proofs.YthffpkdadffinaaDoor.X.tremalaw04_SegChunks.calls A0 c0 xs0 a1 A2 c2 xs2 true W hC0 hc0 hC2 hc2 hk (Lv.of_laid hL)).mono fun e W' ⟨he, bel⟩ => ?_
  subst he
  exact ⟨_, rfl, _, _, _, [], _, [], hW', trodAll_mk1 (shut_bool Tryd.underlying4 _), (trodAll_cons_mk (Below.trod laidOut (by kernel_rfl) (of_decide_eq_true (by kernel_rfl)) k0 bel lt0) (trodAll_cons_mk (shut_int Tryd.underlying3 w1) (trodAll_cons_mk (Below.trod laidOut (by kernel_rfl) (of_decide_eq_true (by kernel_rfl)) k2 bel lt2) trodAll_mk0))), rfl, bel.frame _, fun h => by cases h⟩
set_option maxRecDepth 100000 in
theorem lifted (os : Os) (started : os.Started) (H : Type) (enc : TypeId × Value → H) (F : Stop.Interp) :
    ReturnsInHanded {} Tryd.checked os 3 .any ((Rows.OpenSpec.upto Rows.segChunksSpec).preRow enc Tryd.prog Tryd.f3 Rows.segChunksUptoRow.domain false Rows.segChunksUptoRow.laid) (((Rows.OpenSpec.upto Rows.segChunksSpec).at F).post enc Tryd.prog Tryd.f3 false true false false) := by
  refine returnsInHanded_of_row (C := Tryd.checked) (s := Rows.OpenSpec.upto Rows.segChunksSpec) own started (by kernel_rfl) Tryd.func3
    (witness_row_atRef (enc := enc) (C := Tryd.checked) false (World.doorLaid Tryd.prog 400 os) #[(.slice none 0 0), (.int .i64 0), (.slice none 0 0)] rfl (by kernel_rfl) (by kernel_rfl) (by kernel_rfl)
      (OpenSpec.preRow_of_cond (x := ([.nil, .lit (.int .i64 0), .nil], [], [])) 8 (by kernel_rfl) (by kernel_rfl) (fun k hk => by cases hk; kernel_rfl) (by kernel_rfl) (Lv.door_met os _))) ?_
  intro W base args ds gs before hval hW _ hcond _ hL _ _
  exact contract H enc W base args ds gs before hval hW hL (hcond _ rfl)
theorem proved : Rows.SegChunksUptoSaid :=
  OpenClaim.holds_of_cond 3 Tryd.f3 rfl rfl rfl rfl rfl rfl rfl ⟨rfl, rfl, rfl, rfl, rfl⟩ rfl rfl rfl rfl rfl (by kernel_rfl) Tryd.func3 (by kernel_rfl)
    (of_decide_eq_true (by kernel_rfl)) (by unfold Func.isWrapper; first | (rw [if_pos (by decide +kernel)]; kernel_rfl) | (rw [if_neg (by decide +kernel)]; exact ⟨rfl, rfl⟩))
    (fun os started H enc _ F => by rw [OpenClaim.pre_eq_preRow]; exact lifted os started H enc F)
end Go.Proofs.YthffpkdadffinaaDoor.segChunks
namespace Go.Proofs.YthffpkdadffinaaDoor
theorem segChunks_holds : Rows.SegChunksUptoCardSaid :=
  Claim7.holds_tied_plain_at .later [] [.data, .data, .data] true (true, "40dec18509303b2ee17917badb52d4e1cd75dc8afa2e2cbc1ad49e1a0b909216") false
    segChunks.proved (fun _ h => by cases h) (by kernel_rfl) (fun _ h => by cases h) segChunksUpto_row_tie rfl ⟨rfl, rfl⟩ (by kernel_rfl) rfl
    (fun f fn hf hfn => by
      obtain rfl : f = 3 := Option.some.inj ((show Tryd.prog.funcNamed "trema/tremalaw04.SegChunks" = some 3 by kernel_rfl).symm.trans hf) |>.symm
      obtain rfl : fn = Tryd.f3 := (Option.some.inj (Tryd.func3.symm.trans hfn)).symm
      exact ⟨by kernel_rfl, fun j t ht => by
        rw [Tryd.params3] at ht
        have hm : t ∈ [22, 3, 23] := by simpa using Array.mem_of_getElem? ht
        have hall : ([22, 3, 23].all fun u => !Tryd.prog.wantsStandIn u) = true := by kernel_rfl
        exact (show Tryd.prog.wantsStandIn t = false by simpa using List.all_eq_true.1 hall t hm)⟩)
    (by kernel_rfl)
#print axioms segChunks_holds
end Go.Proofs.YthffpkdadffinaaDoor
