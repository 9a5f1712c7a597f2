/-
  Several texts of this claim in one: what its law's proof uses.
-/
import Derived.Test.YtdambnclbpipdaaGreatDoorMMR5
import Derived.Test.YtdambnclbpipdaaGreatDoorProg
import Derived.WalkKit
import Derived.WalkSpells
import Derived.WalkLawsBesides
import Derived.BigQuiet
import Derived.Deep.QuietTactic
import Derived.Test.YtdambnclbpipdaaGreatDoorMMR1
import Derived.StringKeys
import Derived.Test.YtdambnclbpipdaaGreatDoorMMR3
import Derived.Lib.SlBytesConst
import Derived.Test.YtdambnclbpipdaaGreatDoorMMR0
import Derived.Test.YtdambnclbpipdaaGreatDoorRows
import Derived.ProofKit
import Derived.LaidMore
import Derived.OpenShut
import Derived.Stop.Joined
import Derived.Test.YtdambnclbpipdaaGreatDoorTie
import Derived.Test.YtdambnclbpipdaaGreatDoorCards
import Derived.ShutString
import Derived.ChangeOld
import Derived.Below
import Derived.SizedLaws
import Derived.JoinedCond
import Derived.SevenTiedAt
import Derived.Deep.DeepHandedRow
import Derived.Deep.DeepWitnessRowRef
namespace Go.Proofs.YtdambnclbpipdaaGreatDoor.Ml
set_option linter.unusedVariables false
set_option linter.unusedSimpArgs false
open Go.RowKit Go.Maps Go.Sort Go.Shelf Go.Proofs Go.Proofs.YtdambnclbpipdaaGreatDoorW.PrintWords Go.Proofs.YtdambnclbpipdaaGreatDoor.Hp Go.Proofs.YtdambnclbpipdaaGreatDoor.Fm Go.Proofs.YtdambnclbpipdaaGreatDoor.Ma Go.Proofs.YtdambnclbpipdaaGreatDoor.Mb Go.Proofs.YtdambnclbpipdaaGreatDoor.Mc Go.Proofs.YtdambnclbpipdaaGreatDoor.Me Go.Proofs.YtdambnclbpipdaaGreatDoor.Mg Go.Proofs.YtdambnclbpipdaaGreatDoor.Mf Go.Proofs.YtdambnclbpipdaaGreatDoor.Mi Go.Proofs.YtdambnclbpipdaaGreatDoor.Mfl
theorem sortsI (m : Nat) : AnyZI.SortsIn Tryz.prog sortedI_ren Fence.wide m :=
  ⟨fun blk off cap ss W hH hblk hsz => callsIn_wide.2 (AnyM.slices_Sort_int sortI blk off cap ss W hH hblk hsz),
   fun p cap W => callsIn_wide.2 (AnyM.slices_Sort_int_none sortI p cap W)⟩
theorem KeysI (mb : Option Nat) (W : World) : Calls Tryz.prog 58 #[.map mb] W fun e w' => e = .returned (.func (.func 81) #[] #[.pointer (some ⟨W.heap.size, 0, none⟩)]) ∧ w' = W.alloc (.cells #[.map mb] 89) :=
  (callsIn_wide (n := 5)).1 (AnyZI.keys_in keysI Fence.wide 5 trivial rfl mb W)
theorem SortedI (b : Nat) (D : DataW Value) (w : World) (hM : MapV w TI b D) (hs : size D ≤ 1000000000000) :
    Calls Tryz.prog 57 #[.func (.func 81) #[] #[.pointer (some ⟨w.heap.size, 0, none⟩)]] (w.alloc (.cells #[.map (some b)] 89)) fun e w' => ∃ (v : Value) (ss : List Int), e = .returned v ∧ ss.Perm (intKeys D) ∧
      KI.R TI w' w.heap.size (fun _ => True) v (ss.mergeSort (fun x y => decide (x ≤ y))) ∧ Below w.heap.size w w' := by
  have hbl := hM.lt
  have hseq : SeqGives Fence.wide 2 Tryz.prog 81 #[.pointer (some ⟨w.heap.size, 0, none⟩)] encZ (fun ss => ss.Perm (intKeys D)) (Maps.size D) (w.alloc (.cells #[.map (some b)] 89)) :=
    AnyZI.keys_gives (ρ := keysI_ren) { keysI with } Fence.wide _ trivial rfl (by omega) w.heap.size b _ D _ (by simp) (by simp) (hM.below (below_alloc (Below.refl _ _) _))
  have cS := AnyZI.sorted_in sortedI Fence.wide 5 trivial trivial trivial trivial rfl (by omega) (sortsI _) (enters_of Tryz.func80 (by kernel_rfl) rfl) 81 #[.pointer (some ⟨w.heap.size, 0, none⟩)] trivial (enters_of Tryz.func81 (by kernel_rfl) rfl) _ _ (by unfold maxLen; omega) (by omega) _ hseq
  change CallsIn _ _ Tryz.prog 57 _ _ _ at cS
  refine ((callsIn_wide (n := 5)).1 cS).mono ?_
  rintro e w' ⟨v, ss, rfl, hS, hrow, hnil, hb⟩
  have hb2 : Below w.heap.size w w' := below_then (below_alloc (Below.refl _ _) _) (by simp) hb
  refine ⟨v, ss, rfl, hS, ?_, hb2⟩
  have h1 : w'.ownsRow (w.alloc (.cells #[.map (some b)] 89)).heap.size TI 1 v (ss.mergeSort (fun x y => decide (x ≤ y))).length (nums .i64 (ss.mergeSort (fun x y => decide (x ≤ y)))) := by
    rw [List.length_mergeSort]
    exact hrow
  exact Kd.R_lower (Kd.R_of_own (enc := Value.int .i64) (h1 := fun _ => rfl) h1 (fun k hk => trivial)) (by simp)
theorem sort_ids {L : List En} {D : DataW Value} {ss : List Int} (hs : Srt L) (h1 : (L.map (·.id)).Perm (intKeys D)) (h2 : ss.Perm (intKeys D)) : ss.mergeSort (fun x y => decide (x ≤ y)) = L.map (·.id) := by
  have h3 : ss.mergeSort leI = (L.map (·.id)).mergeSort leI := mergeSort_of_perm_i (h2.trans h1.symm)
  have h4 : (L.map (·.id)).mergeSort leI = L.map (·.id) := List.mergeSort_of_pairwise (by
    rw [List.pairwise_map]
    exact hs.imp (fun h => by simp only [leI, decide_eq_true_eq]; omega))
  exact h3.trans h4
section
variable {g base : Nat} {S : Ix} {ok okp : Nat → Prop}
theorem DocsP (w : World) (h : IsIdx g base S ok okp w) (hn : S.num ≤ 1000000000000000000) :
    Calls Tryz.prog 19 #[at0 g] w fun e w' => ∃ v, e = .returned v ∧ KI.R TI w' w.heap.size (fun _ => True) v (S.L.map (·.id)) ∧ Below w.heap.size w w' := by
  obtain ⟨bm, dm, rv, Db, Dd, RS, ad, h⟩ := h
  have HL := Aside0.mk (liveP w h (nwX h hn))
  have HS := Aside0.mk h.good.srt
  have HSM := Aside0.mk h.small
  clear h hn
  go_enter Tryz.func19, Tryz.ntmps19
  go_wp2_with (first
    | (go_at_call 54; refine HL.out.mono ?_; rintro e w1 ⟨D, rfl, p1, p2, p3⟩; have P1 := Aside0.mk p1; have P2 := Aside0.mk p2; have P3 := Aside0.mk p3; clear p1 p2 p3)
    | (go_at_call 58; refine (KeysI _ _).mono ?_; rintro e w2 ⟨rfl, rfl⟩)
    | (go_at_call 57; refine (SortedI w.heap.size D w1 P1.out (by rw [live_size P2.out HS.out P1.out]; have := HSM.out; omega)).mono ?_; rintro e w3 ⟨v, ss, rfl, q1, q2, q3⟩; have Q1 := Aside0.mk q1; have Q2 := Aside0.mk q2; have Q3 := Aside0.mk q3; clear q1 q2 q3))
  go_ret
  refine ⟨v, rfl, ?_, below_then P3.out P3.out.size Q3.out⟩
  have h2 := Q2.out
  rw [sort_ids HS.out (live_keys P2.out HS.out P1.out) Q1.out] at h2
  exact Kd.R_lower h2 P3.out.size
end
end Go.Proofs.YtdambnclbpipdaaGreatDoor.Ml
namespace Go.Proofs.YtdambnclbpipdaaGreatDoor.Mm
set_option linter.unusedVariables false
set_option linter.unusedSimpArgs false
open Go.RowKit Go.Maps Go.Proofs.YtdambnclbpipdaaGreatDoorW.PrintWords Go.Proofs.YtdambnclbpipdaaGreatDoor.Hp Go.Proofs.YtdambnclbpipdaaGreatDoor.Fm Go.Proofs.YtdambnclbpipdaaGreatDoor.Ma Go.Proofs.YtdambnclbpipdaaGreatDoor.Mb Go.Proofs.YtdambnclbpipdaaGreatDoor.Mc Go.Proofs.YtdambnclbpipdaaGreatDoor.Wd
def keyL (x : SW) : List UInt8 := x.f0.data.toList
theorem skl (s : List UInt8) : WideAt.IsKeyLit (.string s) := trivial
theorem str_ne {s t : List UInt8} (h : s ≠ t) : (Lit.string s) ≠ .string t := fun e => h (by injection e)
structure AtX (ab base : Nat) (l : List SW) (ok : Nat → Prop) (w : World) (D : DataW Value) (okk : List UInt8 → Nat → Prop) : Prop where
  m : MapV w TSt ab D
  lo : base ≤ ab
  o : ok ab
  row : ∀ s, KI.R TI w base (okk s) (vlD nilS D (.string s)) (ords l s)
  ap : ∀ s s' k, s ≠ s' → okk s k → ¬ okk s' k
  sub : ∀ s k, okk s k → ok k ∧ k ≠ ab ∧ k < w.heap.size
  hs : ∀ s, has D (.string s) = true ↔ ords l s ≠ []
  sz : size D ≤ l.length
theorem AtX.at {ab base : Nat} {l : List SW} {ok : Nat → Prop} {w : World} {D : DataW Value} {okk : List UInt8 → Nat → Prop} (h : AtX ab base l ok w D okk) : AtMap ab l base ok w :=
  ⟨D, okk, h.m, h.lo, h.o, h.row, h.ap, fun s k hk => ⟨(h.sub s k hk).1, (h.sub s k hk).2.1⟩, h.hs, h.sz⟩
theorem AtX.start {ab base : Nat} {ok : Nat → Prop} {w : World} (h : MapV w TSt ab (.map [])) (h1 : base ≤ ab) (h2 : ok ab) : AtX ab base [] ok w (.map []) (fun _ _ => False) :=
  ⟨h, h1, h2, fun s => Kd.R_nil _ _ _ _ _, fun _ _ _ _ h => h.elim, fun _ _ h => h.elim, fun s => ⟨fun h => (no_has h).elim, fun h => absurd rfl h⟩, Nat.le_refl _⟩
theorem AtX.move {ab base : Nat} {l : List SW} {ok : Nat → Prop} {w w' : World} {D : DataW Value} {okk : List UInt8 → Nat → Prop} (h : AtX ab base l ok w D okk) (hb : Below w.heap.size w w') : AtX ab base l ok w' D okk :=
  { h with
    m := h.m.below hb
    row := fun s => Kd.R_below (h.row s) hb
    sub := fun s k hk => ⟨(h.sub s k hk).1, (h.sub s k hk).2.1, Nat.lt_of_lt_of_le (h.sub s k hk).2.2 hb.size⟩ }
theorem AtX.next {ab base : Nat} {l : List SW} {ok : Nat → Prop} {w w7 w8 : World} {D : DataW Value} {okk : List UInt8 → Nat → Prop} (h : AtX ab base l ok w D okk) (x : SW) {v7 : Value} (hok : ∀ k, w.heap.size ≤ k → ok k) (hks : (keyL x).length ≤ maxLen)
    (R7 : KI.R TI w7 base (fun k => okk (keyL x) k ∨ w.heap.size ≤ k) v7 (ords l (keyL x) ++ [(l.length : Int)])) (hg7 : w.grownBy w7 (vlD nilS D (.string (keyL x))).ownBlock)
    (hM : MapV w8 TSt ab (D.put (.string (keyL x)) (.held v7))) (hg8 : w7.grownBy w8 (some ab)) :
    AtX ab base (l ++ [x]) ok w8 (D.put (.string (keyL x)) (.held v7)) (fun s k => if s = keyL x then (okk s k ∨ w.heap.size ≤ k) ∧ k < w7.heap.size else okk s k) := by
  have hlt := h.m.lt
  have hD := h.m.tidy keyS
  have hab : ∀ s k, okk s k → some k ≠ some ab := fun s k hk e => (h.sub s k hk).2.1 (by injection e)
  refine ⟨hM, h.lo, h.o, fun s => ?_, fun s s' k hne h1 h2 => ?_, fun s k hk => ?_, fun s => ?_, by rw [size_put hD, List.length_append, List.length_singleton]; have := h.sz; split <;> omega⟩
  · rw [ords_snoc]
    by_cases e : s = keyL x
    · subst e
      rw [vl_put hD.isMap (skl _), if_pos (show x.f0.data.toList = keyL x from rfl)]
      simp only [if_true]
      refine Kd.R_grown (Kd.R_mono (Kd.R_bound R7) (fun k hk => ⟨hk.1, hk.2.2.1⟩)) hg8 (fun k hk e => ?_)
      injection e with e
      subst e
      rcases hk.1 with hk1 | hk1
      · exact (h.sub _ _ hk1).2.1 rfl
      · omega
    · rw [vl_put_ne (str_ne e), if_neg (fun e2 => e e2.symm)]
      simp only [e, if_false]
      refine Kd.R_grown (Kd.R_grown (h.row s) hg7 (fun k hk e2 => ?_)) hg8 (hab s)
      exact h.ap s (keyL x) k e hk ((h.row (keyL x)).1 k e2.symm)
  · by_cases e : s = keyL x
    · by_cases e' : s' = keyL x
      · exact hne (e.trans e'.symm)
      · rw [if_pos e] at h1
        rw [if_neg e'] at h2
        rcases h1.1 with h1 | h1
        · exact h.ap s s' k hne h1 h2
        · have := (h.sub s' k h2).2.2; omega
    · rw [if_neg e] at h1
      by_cases e' : s' = keyL x
      · rw [if_pos e'] at h2
        rcases h2.1 with h2 | h2
        · exact h.ap s s' k hne h1 h2
        · have := (h.sub s k h1).2.2; omega
      · rw [if_neg e'] at h2
        exact h.ap s s' k hne h1 h2
  · have s7 := hg7.size
    have s8 := hg8.size
    by_cases e : s = keyL x
    · rw [if_pos e] at hk
      rcases hk.1 with h1 | h1
      · have := h.sub s k h1; exact ⟨this.1, this.2.1, by omega⟩
      · exact ⟨hok k h1, by omega, by omega⟩
    · rw [if_neg e] at hk
      have := h.sub s k hk
      exact ⟨this.1, this.2.1, by omega⟩
  · rw [ords_snoc]
    by_cases e : s = keyL x
    · subst e
      rw [has_put_same hD.isMap (skl _), if_pos (show x.f0.data.toList = keyL x from rfl)]
      simp
    · rw [has_put_other (str_ne e), if_neg (fun e2 => e e2.symm)]
      exact h.hs s
theorem AtX.mono {ab base : Nat} {l : List SW} {ok ok' : Nat → Prop} {w : World} {D : DataW Value} {okk : List UInt8 → Nat → Prop} (h : AtX ab base l ok w D okk) (ho : ∀ k, ok k → ok' k) : AtX ab base l ok' w D okk :=
  { h with o := ho _ h.o, sub := fun s k hk => ⟨ho _ (h.sub s k hk).1, (h.sub s k hk).2⟩ }
end Go.Proofs.YtdambnclbpipdaaGreatDoor.Mm
namespace Go.Proofs.YtdambnclbpipdaaGreatDoor.Cluint8
set_option linter.unusedVariables false
set_option linter.unusedSimpArgs false
open Go.RowKit Go.Proofs.YtdambnclbpipdaaGreatDoorW.PrintWords Go.Proofs.YtdambnclbpipdaaGreatDoor.Hp
theorem info_e : (Tryz.prog.info? 5).map (fun i => (i.zero, i.size, i.bytes)) = some (some (.int .u8 0), 1, 1) := by kernel_rfl
set_option maxHeartbeats 1000000 in
theorem clone (w : World) (A : Option Addr) (n c : Nat) (xs : List Int) (HR : ReadsInt w .u8 A n xs) (hl : n * 1 ≤ 140737488355328) :
    Calls Tryz.prog 56 #[.slice A n c] w fun e w' => Aside0 (∃ v, e = .returned v ∧ w'.ownsRow w.heap.size 5 1 v xs.length (nums .u8 xs) ∧ Below w.heap.size w w') := by
  have hn := fun w : World => Lib.run_eql_slice_nil (P := Tryz.prog) w 28 5 A n c 0 0 Tryz.underlying28
  cases A with
  | none =>
    have h0 : xs = [] := by
      have h1 := HR.1
      rcases Nat.eq_zero_or_pos n with h2 | h2
      · exact List.eq_nil_of_length_eq_zero (by omega)
      · obtain ⟨ad, h, _⟩ := HR.2.2 h2; cases h
    subst h0
    clear HR hl
    go_enter Tryz.func56, Tryz.ntmps56
    go_wp2
    go_ret
    exact ⟨_, rfl, own_nil _ _ _ _, Below.refl _ _⟩
  | some ad =>
    have hm := HR.2.1
    have hlen := HR.1
    have H := Aside0.mk HR
    clear HR
    go_enter Tryz.func56, Tryz.ntmps56
    have HL := Aside0.mk hlen
    clear hlen
    go_wp2_with (at_builtin; go_must (refine print_append_row (w0 := w) w.heap.size rfl (.tmp 5) (.tmp 6) 28 5 .u8 1 rfl Tryz.underlying28 info_e (by decide) (.slice (some ⟨w.heap.size, 0, none⟩) 0 0) [] xs (some ad) n c rfl rfl ?ho (H.out.below (below_alloc (Below.refl _ _) _)) (below_alloc (Below.refl _ _) _) ?hb ?hl ?hh))
    case ho => exact ⟨rfl, .inr ⟨w.heap.size, 0, #[], rfl, Nat.le_refl _, heap_alloc_new w _, Nat.le_refl _, by simp [maxLen], rfl, rfl⟩⟩
    case hb => simp
    case hl => simp; omega
    case hh =>
      intro v1 w1 hown hb hg hat
      obtain ⟨A1, c1, rfl⟩ := own_slice hown
      have HP := Aside0.mk hown
      clear hat hown
      go_wp2
      go_ret
      exact ⟨_, rfl, by simpa using HP.out, hb⟩
end Go.Proofs.YtdambnclbpipdaaGreatDoor.Cluint8
namespace Go.Proofs.YtdambnclbpipdaaGreatDoor.Mn
set_option linter.unusedVariables false
set_option linter.unusedSimpArgs false
open Go.Proofs.YtdambnclbpipdaaGreatDoor.Ux (Bytes)
open Go.RowKit Go.Maps Go.Proofs.YtdambnclbpipdaaGreatDoorW.PrintWords Go.Proofs.YtdambnclbpipdaaGreatDoorW.PrintLast Go.Proofs.YtdambnclbpipdaaGreatDoor.Hp Go.Proofs.YtdambnclbpipdaaGreatDoor.Fm Go.Proofs.YtdambnclbpipdaaGreatDoor.X Go.Proofs.YtdambnclbpipdaaGreatDoor.Va Go.Proofs.YtdambnclbpipdaaGreatDoor.Ma Go.Proofs.YtdambnclbpipdaaGreatDoor.Mb Go.Proofs.YtdambnclbpipdaaGreatDoor.Mc Go.Proofs.YtdambnclbpipdaaGreatDoor.Me Go.Proofs.YtdambnclbpipdaaGreatDoor.Mg Go.Proofs.YtdambnclbpipdaaGreatDoor.Mf Go.Proofs.YtdambnclbpipdaaGreatDoor.Mh Go.Proofs.YtdambnclbpipdaaGreatDoor.Mi Go.Proofs.YtdambnclbpipdaaGreatDoor.Mk Go.Proofs.YtdambnclbpipdaaGreatDoor.Mm Go.Proofs.YtdambnclbpipdaaGreatDoor.Sga Go.Proofs.YtdambnclbpipdaaGreatDoor.Sgb Go.Proofs.YtdambnclbpipdaaGreatDoor.Sgd Go.Proofs.YtdambnclbpipdaaGreatDoor.Wd Go.Proofs.YtdambnclbpipdaaGreatDoor.Wj Go.Proofs.YtdambnclbpipdaaGreatDoor.We
def addE (S : Ix) (id : Int) (b : List Int) : Int := if id < 0 ∨ 2147483647 < id then 1 else if 65536 < b.length then 3 else if (atE S.L id).isSome = true then 9 else if S.L.length = 256 then 11 else wer b
def layX (S : Ix) (id : Int) (b : List Int) : Ix := { S with L := insE ⟨id, 0, b⟩ S.L }
def addX (S : Ix) (id : Int) (b : List Int) : Ix := if addE S id b = 0 then (if S.flush ≤ cntB (layX S id b).L then flushX (layX S id b) else layX S id b) else S
section
variable {g base : Nat} {S : Ix} {ok okp : Nat → Prop} {bm dm : Nat} {rv : Value} {Db Dd : DataW Value} {RS : List Rn} {ad : Int → Nat}
theorem WordsP (w : World) (hG : G w) (A : Option Addr) (n c : Nat) (b : List Int) (hC : KB.C w A n b) (hn : n = b.length) (hc : n ≤ c) (hB : Bytes b) (hl : n ≤ 65536) (q : Int) (l : List SW) (hq : wer b = q) (hl2 : (if wer b = 0 then wds b else []) = l) :
    Calls Tryz.prog 55 #[.slice A n c, .int .i64 64] w fun e w' => ∃ v, e = .returned (.tuple #[v, .int .i64 q]) ∧ kW.R TW w' w.heap.size (fun _ => True) v l ∧ Below w.heap.size w w' := by
  subst hn
  have e := wordsE 64 b hB (by omega)
  refine (words_Words.calls A c b 64 l q w hC hc ?_ hG).mono fun e w' h => h
  rw [e, ← hq, ← hl2]
  unfold wer wds
  split <;> simp_all
set_option maxRecDepth 100000 in
set_option maxHeartbeats 4000000 in
theorem AddArg (w : World) (id : Int) (hx : id < 0 ∨ 2147483647 < id) (v : Value) : Calls Tryz.prog 17 #[at0 g, .int .i64 id, v] w fun e w' => e = .returned (.int .i64 1) ∧ w = w' := by
  by_cases h1 : id < 0
  · have d1 : decide (id < 0) = true := decide_eq_true h1
    go_enter Tryz.func17, Tryz.ntmps17
    go_wp2
    go_ret
    exact ⟨rfl, rfl⟩
  · have d1 : decide (id < 0) = false := decide_eq_false h1
    have d2 : decide (2147483647 < id) = true := decide_eq_true (by omega)
    go_enter Tryz.func17, Tryz.ntmps17
    go_wp2
    go_ret
    exact ⟨rfl, rfl⟩
set_option maxRecDepth 100000 in
set_option maxHeartbeats 4000000 in
theorem AddLong (w : World) (id : Int) (hx : 0 ≤ id ∧ id ≤ 2147483647) (A : Option Addr) (n c : Nat) (hl : 65536 < n) : Calls Tryz.prog 17 #[at0 g, .int .i64 id, .slice A n c] w fun e w' => e = .returned (.int .i64 3) ∧ w = w' := by
  have d1 : decide (id < 0) = false := decide_eq_false (by omega)
  have d2 : decide (2147483647 < id) = false := decide_eq_false (by omega)
  have d3 : decide ((65536 : Int) < (n : Int)) = true := decide_eq_true (by omega)
  have d4 : decide (65536 < n) = true := decide_eq_true hl
  go_enter Tryz.func17, Tryz.ntmps17
  go_wp2
  go_ret
  exact ⟨rfl, rfl⟩
set_option maxRecDepth 100000 in
set_option maxHeartbeats 4000000 in
theorem AddThere (w : World) (h : Ix0 g base S ok okp w bm dm rv Db Dd RS ad) (hnum : S.num ≤ 1000000000000000000) (id : Int) (hx : 0 ≤ id ∧ id ≤ 2147483647) (A : Option Addr) (n c : Nat) (hl : n ≤ 65536) (e : En) (he : atE S.L id = some e) :
    Calls Tryz.prog 17 #[at0 g, .int .i64 id, .slice A n c] w fun e w' => e = .returned (.int .i64 9) ∧ Below w.heap.size w w' := by
  have d1 : decide (id < 0) = false := decide_eq_false (by omega)
  have d2 : decide (2147483647 < id) = false := decide_eq_false (by omega)
  have d3 : decide ((65536 : Int) < (n : Int)) = false := decide_eq_false (by omega)
  have d4 : decide (65536 < n) = false := decide_eq_false (by omega)
  have HF := findP w h (nwX h hnum) id (WalkArith.wf_i64 (by omega))
  rw [he] at HF
  have HF := Aside0.mk HF
  clear h hnum he
  go_enter Tryz.func17, Tryz.ntmps17
  go_wp2_with (first | (go_at_call 53; refine HF.out.mono ?_; rintro e w1 ⟨rfl, p1⟩; have P1 := Aside0.mk p1; clear p1; simp only [lvE]))
  go_ret
  exact ⟨rfl, P1.out⟩
set_option maxRecDepth 100000 in
set_option maxHeartbeats 4000000 in
theorem AddFull (w : World) (h : Ix0 g base S ok okp w bm dm rv Db Dd RS ad) (hnum : S.num ≤ 1000000000000000000) (id : Int) (hx : 0 ≤ id ∧ id ≤ 2147483647) (A : Option Addr) (n c : Nat) (hl : n ≤ 65536) (he : atE S.L id = none) (hf : S.L.length = 256) :
    Calls Tryz.prog 17 #[at0 g, .int .i64 id, .slice A n c] w fun e w' => e = .returned (.int .i64 11) ∧ Below w.heap.size w w' := by
  have d1 : decide (id < 0) = false := decide_eq_false (by omega)
  have d2 : decide (2147483647 < id) = false := decide_eq_false (by omega)
  have d3 : decide ((65536 : Int) < (n : Int)) = false := decide_eq_false (by omega)
  have d4 : decide (65536 < n) = false := decide_eq_false (by omega)
  have HF := findP w h (nwX h hnum) id (WalkArith.wf_i64 (by omega))
  rw [he] at HF
  have HF := Aside0.mk HF
  have HS := Aside0.mk h.good.srt
  have HFU := Aside0.mk hf
  have HL := Aside0.mk (fun (W : World) (hB : Below w.heap.size w W) => liveP W (h.step (fun k _ hlt => hB.block k hlt)) (nwX h hnum))
  clear h hnum he hf
  go_enter Tryz.func17, Tryz.ntmps17
  go_wp2_with (first
    | (go_at_call 53; refine HF.out.mono ?_; rintro e w1 ⟨rfl, p1⟩; have P1 := Aside0.mk p1; clear p1; simp only [lvE])
    | (go_at_call 54; refine (HL.out _ P1.out).mono ?_; rintro e w2 ⟨D, rfl, p1, p2, p3⟩; have P2 := Aside0.mk p1; have P3 := Aside0.mk p2; have P4 := Aside0.mk p3; clear p1 p2 p3)
    | (at_len; refine wp_len rfl _ 89 rfl _ _ Tryz.underlying89 _ D rfl P2.out ?_; rw [live_size P3.out HS.out P2.out, HFU.out]) | go_in)
  go_ret
  exact ⟨rfl, below_then P1.out P1.out.size P4.out⟩
set_option maxRecDepth 100000 in
set_option maxHeartbeats 4000000 in
theorem AddWer (w : World) (h : Ix0 g base S ok okp w bm dm rv Db Dd RS ad) (hnum : S.num ≤ 1000000000000000000) (id : Int) (hx : 0 ≤ id ∧ id ≤ 2147483647) (A : Option Addr) (n c : Nat) (hl : n ≤ 65536) (he : atE S.L id = none) (hf : S.L.length ≠ 256) (hG : G w) (b : List Int) (hC : KB.C w A n b) (hn : n = b.length) (hc : n ≤ c) (hB : Bytes b) (q : Int) (hq : wer b = q) (hw : q ≠ 0) :
    Calls Tryz.prog 17 #[at0 g, .int .i64 id, .slice A n c] w fun e w' => e = .returned (.int .i64 q) ∧ Below w.heap.size w w' := by
  have d1 : decide (id < 0) = false := decide_eq_false (by omega)
  have d2 : decide (2147483647 < id) = false := decide_eq_false (by omega)
  have d3 : decide ((65536 : Int) < (n : Int)) = false := decide_eq_false (by omega)
  have d4 : decide (65536 < n) = false := decide_eq_false (by omega)
  have HF := findP w h (nwX h hnum) id (WalkArith.wf_i64 (by omega))
  rw [he] at HF
  have HF := Aside0.mk HF
  have HS := Aside0.mk h.good.srt
  have HG := Aside0.mk hG
  have HC := Aside0.mk hC
  have hf1 : decide (((S.L.length : Nat) : Int) = 256) = false := decide_eq_false (by omega)
  have hf2 : (((S.L.length : Nat) : Int) == 256) = false := by simp; omega
  have hw2 : (q == (0 : Int)) = false := by simpa using hw
  have hw3 : (q != (0 : Int)) = true := by simpa using hw
  have HQ := Aside0.mk hq
  have HN := Aside0.mk hn
  have HBY := Aside0.mk hB
  clear hq hn hB
  have HL := Aside0.mk (fun (W : World) (hB : Below w.heap.size w W) => liveP W (h.step (fun k _ hlt => hB.block k hlt)) (nwX h hnum))
  clear h hnum he hf hG hC
  go_enter Tryz.func17, Tryz.ntmps17
  go_wp2_with (first
    | (go_at_call 53; refine HF.out.mono ?_; rintro e w1 ⟨rfl, p1⟩; have P1 := Aside0.mk p1; clear p1; simp only [lvE])
    | (go_at_call 54; refine (HL.out _ P1.out).mono ?_; rintro e w2 ⟨D, rfl, p1, p2, p3⟩; have P2 := Aside0.mk p1; have P3 := Aside0.mk p2; have P4 := Aside0.mk p3; clear p1 p2 p3)
    | (at_len; refine wp_len rfl _ 89 rfl _ _ Tryz.underlying89 _ D rfl P2.out ?_; rw [live_size P3.out HS.out P2.out])
    | (go_at_call 55; refine (WordsP _ (G.below HG.out (below_then P1.out P1.out.size P4.out)) A n c b (Kd.C_below (Kd.C_below HC.out P1.out) P4.out) HN.out hc HBY.out hl q _ HQ.out rfl).mono ?_; rintro e w3 ⟨v3, rfl, p1, p2⟩; have P5 := Aside0.mk p2; clear p1 p2) | go_in)
  go_ret
  exact ⟨rfl, below_then (below_then P1.out P1.out.size P4.out) (Nat.le_trans P1.out.size P4.out.size) P5.out⟩
end
end Go.Proofs.YtdambnclbpipdaaGreatDoor.Mn
namespace Go.Proofs.YtdambnclbpipdaaGreatDoor.Mo
set_option linter.unusedVariables false
set_option linter.unusedSimpArgs false
open Go.Proofs.YtdambnclbpipdaaGreatDoor.Ux (Bytes)
open Go.RowKit Go.Maps Go.Proofs.YtdambnclbpipdaaGreatDoorW.PrintWords Go.Proofs.YtdambnclbpipdaaGreatDoorW.PrintLast Go.Proofs.YtdambnclbpipdaaGreatDoor.Hp Go.Proofs.YtdambnclbpipdaaGreatDoor.Fm Go.Proofs.YtdambnclbpipdaaGreatDoor.X Go.Proofs.YtdambnclbpipdaaGreatDoor.Va Go.Proofs.YtdambnclbpipdaaGreatDoor.Ma Go.Proofs.YtdambnclbpipdaaGreatDoor.Mb Go.Proofs.YtdambnclbpipdaaGreatDoor.Mc Go.Proofs.YtdambnclbpipdaaGreatDoor.Me Go.Proofs.YtdambnclbpipdaaGreatDoor.Mg Go.Proofs.YtdambnclbpipdaaGreatDoor.Mf Go.Proofs.YtdambnclbpipdaaGreatDoor.Mh Go.Proofs.YtdambnclbpipdaaGreatDoor.Mi Go.Proofs.YtdambnclbpipdaaGreatDoor.Mk Go.Proofs.YtdambnclbpipdaaGreatDoor.Mm Go.Proofs.YtdambnclbpipdaaGreatDoor.Mn Go.Proofs.YtdambnclbpipdaaGreatDoor.Sga Go.Proofs.YtdambnclbpipdaaGreatDoor.Sgb Go.Proofs.YtdambnclbpipdaaGreatDoor.Sgd Go.Proofs.YtdambnclbpipdaaGreatDoor.Wd Go.Proofs.YtdambnclbpipdaaGreatDoor.Wj Go.Proofs.YtdambnclbpipdaaGreatDoor.We
theorem own_B {w : World} {base : Nat} {e : TypeId} {v : Value} {xs : List Int} (h : w.ownsRow base e 1 v xs.length (nums .u8 xs)) : KB.R e w base (fun b => base ≤ b) v xs :=
  Kd.R_of_own (enc := Value.int .u8) (h1 := fun _ => rfl) h (fun k hk => own_base h k hk)
theorem doc_new {w w4 W0 : World} {ab : Nat} {cs : Array Value} (hab : ab = w4.heap.size) (hW : W0 = (w4.alloc (.map #[] 0)).alloc (.cells cs TDoc)) (hB : Below w.heap.size w w4) :
    W0.heap[ab + 1]? = some (.cells cs TDoc (0, 0)) ∧ MapV W0 TSt ab (.map []) ∧ Below w4.heap.size w4 W0 ∧ Below w.heap.size w W0 := by
  subst hab hW
  have e1 : (w4.alloc (.map #[] 0)).heap.size = w4.heap.size + 1 := by simp
  have b1 := below_alloc (Below.refl w4.heap.size w4) (.map #[] 0)
  have b2 := below_alloc (Below.refl (w4.alloc (.map #[] 0)).heap.size (w4.alloc (.map #[] 0))) (.cells cs TDoc)
  have h1 := heap_alloc_new (w4.alloc (.map #[] 0)) (.cells cs TDoc)
  rw [e1] at h1
  exact ⟨h1, (MapV.new w4 TSt).below b2, below_then b1 b1.size b2, below_then hB hB.size (below_then b1 b1.size b2)⟩
theorem words_row {w4 : World} {base : Nat} {v : Value} {l : List SW} (h : kW.R TW w4 base (fun _ => True) v l) : kW.R TW w4 base (fun k => k < w4.heap.size) v l := Kd.R_mono (Kd.R_bound h) (fun k hk => hk.2.2.1)
theorem wds_len {b : List Int} (hB : Bytes b) (hl : b.length ≤ 1048576) : (wds b).length ≤ 13000000 := by
  obtain ⟨k, -, h2, h3⟩ := split_take 64 b hB hl
  exact Nat.le_trans (wordsF_len _) h3
theorem wds_key {b : List Int} (hB : Bytes b) (hl : b.length ≤ 1048576) : ∀ x ∈ wds b, (keyL x).length ≤ 1000000000 := by
  obtain ⟨k, -, h2, h3⟩ := split_take 64 b hB hl
  intro x hx
  obtain ⟨p, -, rfl⟩ := List.mem_map.1 hx
  unfold keyL
  rw [data_length]
  show (Wb.keyR _ _ _).size ≤ _
  unfold Wb.keyR
  have h4 := Wa.keyS_size (bytesOf (Wb.catR ((splitF 64 b).1.map (·.f0)) p.1 p.2)) (X.bytesOf_Bytes _)
  rw [bytesOf_length] at h4
  have h5 := Wg.catR_size ((splitF 64 b).1.map (·.f0)) p.1 p.2
  omega
theorem cell_grown {w w' : World} {row : Option Nat} {p : Addr} {u : Value} (h : w.cell? p = some u) (hg : w.grownBy w' row) (hne : some p.block ≠ row) : w'.cell? p = some u := by
  have := hg.block p.block (World.block_lt_of_cell? w p h) hne
  simpa [World.cell?, this] using h
theorem two_cells {w w' : World} {row : Option Nat} {a hb : Nat} {u u2 : Value} (h : w.cell? ⟨a, 3, none⟩ = some u ∧ w.cell? ⟨hb, 0, none⟩ = some u2) (hg : w.grownBy w' row) (hne : ∀ k, row = some k → k ≠ a ∧ k ≠ hb) : w'.cell? ⟨a, 3, none⟩ = some u ∧ w'.cell? ⟨hb, 0, none⟩ = some u2 :=
  ⟨cell_grown h.1 hg (fun e => (hne a e.symm).1 rfl), cell_grown h.2 hg (fun e => (hne hb e.symm).2 rfl)⟩
theorem at_size {D : DataW Value} {s : List UInt8} {v : Value} {i : Nat} (hT : Tidy D) (h : size D ≤ i) : size (D.put (.string s) (.held v)) ≤ i + 1 := by
  rw [size_put hT]
  split <;> omega
theorem add_next {ab base i : Nat} {l : List SW} {W0 w6 w7 w8 : World} {D : DataW Value} {okk : List UInt8 → Nat → Prop} {x : SW} {v5 v7 : Value} (hx : l[i]? = some x) (h : AtX ab base (l.take i) (fun k => k = ab ∨ W0.heap.size ≤ k) w6 D okk) (h0 : W0.heap.size ≤ w6.heap.size) (hk : (keyL x).length ≤ maxLen)
    (R7 : KI.R TI w7 base (fun k => okk (keyL x) k ∨ w6.heap.size ≤ k) v7 (ords (l.take i) (keyL x) ++ [(i : Int)])) (hv5 : v5 = vlD nilS D (.string (keyL x))) (G7 : w6.grownBy w7 v5.ownBlock) (M8 : MapV w8 TSt ab (D.put (.string (keyL x)) (.held v7))) (G8 : w7.grownBy w8 (some ab)) :
    AtX ab base (l.take (i + 1)) (fun k => k = ab ∨ W0.heap.size ≤ k) w8 (D.put (.string (keyL x)) (.held v7)) (fun s k => if s = keyL x then (okk s k ∨ w6.heap.size ≤ k) ∧ k < w7.heap.size else okk s k) := by
  obtain ⟨hl, rfl⟩ := List.getElem?_eq_some_iff.1 hx
  have hlen : (l.take i).length = i := by rw [List.length_take]; omega
  rw [List.take_succ_eq_append_getElem hl]
  rw [hv5] at G7
  exact h.next _ (fun k hk => .inr (by omega)) hk (by rw [hlen]; exact R7) G7 M8 G8
theorem add_chg {ab : Nat} {W0 wr wd w6 w7 w8 : World} {okx : Nat → Prop} {v5 : Value} (h : Chg (fun k => k = ab) W0 wr) (hd : Below wr.heap.size wr wd) (h6 : Below wd.heap.size wd w6) (G7 : w6.grownBy w7 v5.ownBlock) (hv : ∀ k, v5.ownBlock = some k → okx k) (ho : ∀ k, okx k → (k = ab ∨ W0.heap.size ≤ k) ∧ k ≠ ab) (G8 : w7.grownBy w8 (some ab)) : Chg (fun k => k = ab) W0 w8 :=
  (((h.then_below hd).then_below h6).grown G7 (fun k hk => by have := ho k (hv k hk); rcases this.1 with h1 | h1; exact absurd h1 this.2; exact .inr h1)).grown G8 (fun k hk => by injection hk with hk; exact .inl hk.symm)
theorem AtMap.lower {ab base base' : Nat} {l : List SW} {ok : Nat → Prop} {w : World} (h : AtMap ab l base ok w) (hb : base' ≤ base) : AtMap ab l base' ok w := by
  obtain ⟨D, okk, h1, h2, h3, h4, h5, h6, h7⟩ := h
  exact ⟨D, okk, h1, Nat.le_trans hb h2, h3, fun s => Kd.R_lower (h4 s) hb, h5, h6, h7⟩
theorem StepX.after {w W w' : World} {g base : Nat} {S' : Ix} {ok ok1 okp okp1 : Nat → Prop} (hc : Chg ok w W) (h : StepX W g base S' ok1 okp1 w') (h1 : ∀ k, ok1 k → ok k ∨ w.heap.size ≤ k) (h2 : ∀ k, okp1 k → okp k ∨ w.heap.size ≤ k) : StepX w g base S' ok okp w' := by
  obtain ⟨ok', okp', i1, i2, i3, i4⟩ := h
  have hs := hc.size
  exact ⟨ok', okp', i1, fun k hk => (i2 k hk).elim (h1 k) (fun h => .inr (by omega)), fun k hk => (i3 k hk).elim (h2 k) (fun h => .inr (by omega)), hc.trans i4 (fun k hk h => (h1 k h).elim id (fun h5 => by omega))⟩
theorem infoIn : (Tryz.prog.info? 3).map (fun i => (i.zero, i.size, i.bytes)) = some (some (.int .i64 0), 1, 8) := by kernel_rfl
theorem blk_cell3 {w : World} {g : Nat} {t : TypeId} {v0 v1 v2 v3 : Value} (h : w.heap[g]? = some (.cells #[v0, v1, v2, v3] t (0, 0))) : w.cell? ⟨g, 3, none⟩ = some v3 := by simpa using blk_cell h 3
theorem cntB_le256 {L : List En} (h : L.length ≤ 256) : cntB L ≤ 256 := Nat.le_trans (List.length_filter_le _ _) h
theorem add_below {w W0 wr : World} {ab : Nat} (hB : Below w.heap.size w W0) (hC : Chg (fun k => k = ab) W0 wr) (ha : w.heap.size ≤ ab) : Below w.heap.size w wr := hC.below_of hB (fun k hk => by rw [hk]; exact ha)
theorem add_cell {w W0 wr : World} {g ab : Nat} {cs : Array Value} (h : w.heap[g]? = some (.cells cs TX (0, 0))) (hB : Below w.heap.size w W0) (hC : Chg (fun k => k = ab) W0 wr) (ha : w.heap.size ≤ ab) (i : Nat) : wr.cell? ⟨g, i, none⟩ = cs[i]? := blk_cell (blk_below h (add_below hB hC ha)) i
theorem add_map {w W0 wr : World} {b ab : Nat} {D : DataW Value} (h : MapV w TI b D) (hB : Below w.heap.size w W0) (hC : Chg (fun k => k = ab) W0 wr) (ha : w.heap.size ≤ ab) : MapV wr TI b D := h.below (add_below hB hC ha)
section
variable {g base : Nat} {S : Ix} {ok okp : Nat → Prop} {bm dm : Nat} {rv : Value} {Db Dd D' : DataW Value} {RS : List Rn} {ad : Int → Nat} {okk : List UInt8 → Nat → Prop}
theorem add_ix {w w4 W0 wr w9 : World} {id : Int} {b : List Int} {ab NB c4 NN c3 : Nat} {A4 A3 : Option Addr} {l : List SW} (h : Ix0 g base S ok okp w bm dm rv Db Dd RS ad) (he : atE S.L id = none) (hx : 0 ≤ id ∧ id ≤ 2147483647) (hf : S.L.length ≠ 256)
    (ha : w.heap.size ≤ ab) (hB : Below w.heap.size w W0) (hB4 : Below w4.heap.size w4 W0) (hab : ab = w4.heap.size) (hW : W0.heap.size = ab + 2) (hC : Chg (fun k => k = ab) W0 wr)
    (hX : W0.heap[ab + 1]? = some (.cells #[.int .i64 id, .slice A4 NB c4, .slice A3 NN c3, .map (some ab)] TDoc (0, 0))) (hb4 : KB.R TB w4 w.heap.size (fun _ => True) (.slice A4 NB c4) b) (hw4 : kW.R TW w4 w.heap.size (fun k => k < w4.heap.size) (.slice A3 NN c3) l) (hl : wds b = l)
    (hA : AtX ab w.heap.size l (fun k => k = ab ∨ W0.heap.size ≤ k) wr D' okk) (hM : MapV w9 TI bm (Db.put (ik id) (.held (at0 (ab + 1))))) (hg : wr.grownBy w9 (some bm)) :
    ∃ ok1 okp1, IsIdx g base (layX S id b) ok1 okp1 w9 ∧ (∀ k, ok1 k → ok k ∨ w.heap.size ≤ k) ∧ (∀ k, okp1 k → okp k ∨ w.heap.size ≤ k) ∧ Chg ok w w9 := by
  have hbr := add_below hB hC ha
  have h1 := h.bound.step (w' := wr) (fun k _ hlt => hbr.block k hlt)
  have hbl := h.mb.lt
  have hs := hbr.size
  have s9 := hg.size
  have hbm : ∀ k, w.heap.size ≤ k → some k ≠ some bm := fun k hk e => by injection e; omega
  have hsw := hC.size
  have d1 : DocAt (ab + 1) id b base (fun k => (okp k ∧ k < w.heap.size) ∨ (w.heap.size ≤ k ∧ k < wr.heap.size)) w9 := by
    refine ⟨_, _, ab, blk_grown (hC.heap hX (show ¬ ab + 1 = ab by omega)) hg (hbm _ (by omega)), by have := h.lo.1; have := blk_lt h.blk; omega, .inr ⟨by omega, by omega⟩, ?_, ?_, ?_⟩
    · have r1 := Kd.R_below (Kd.R_mono (Kd.R_bound hb4) (fun k hk => (⟨hk.2.1, hk.2.2.1⟩ : w.heap.size ≤ k ∧ k < w4.heap.size))) hB4
      have r2 := R_chg r1 hC (fun k hk e => by omega)
      have r3 := Kd.R_grown r2 hg (fun k hk => hbm k hk.1)
      exact Kd.R_mono (Kd.R_lower r3 (Nat.le_trans h.lo.1 (Nat.le_of_lt (blk_lt h.blk)))) (fun k hk => .inr ⟨hk.1, by omega⟩)
    · rw [hl]
      have r1 := Kd.R_below (Kd.R_mono (Kd.R_bound hw4) (fun k hk => (⟨hk.2.1, hk.2.2.1⟩ : w.heap.size ≤ k ∧ k < w4.heap.size))) hB4
      have r2 := R_chg r1 hC (fun k hk e => by omega)
      have r3 := Kd.R_grown r2 hg (fun k hk => hbm k hk.1)
      exact Kd.R_mono (Kd.R_lower r3 (Nat.le_trans h.lo.1 (Nat.le_of_lt (blk_lt h.blk)))) (fun k hk => .inr ⟨hk.1, by omega⟩)
    · rw [hl]
      have r1 := hA.at.bound.step (w' := w9) (fun k hk hlt => hg.block k hlt (hbm k (by rcases hk.1 with e | e <;> omega)))
      exact AtMap.lower (r1.mono (fun k hk => .inr ⟨by rcases hk.1 with e | e <;> omega, hk.2⟩)) (Nat.le_trans h.lo.1 (Nat.le_of_lt (blk_lt h.blk)))
  refine ⟨fun k => ok k ∧ k < w.heap.size, fun k => (okp k ∧ k < w.heap.size) ∨ (w.heap.size ≤ k ∧ k < wr.heap.size), ⟨bm, dm, rv, _, Dd, RS, _, ix_maps (S' := layX S id b) h1 (.inl rfl) hg hM (h1.md.move (hg.block dm h1.md.lt (fun e => by injection e with e; exact h.ne.1 e.symm))) (good_add h.good (h.mb.tidy keyI) he (b := b) (a := ab + 1)) rfl rfl rfl (fun e hm => ?_) (fun k hk hk2 => ?_) ?_ (fun e hm => ?_)⟩, fun k hk => .inl hk.1, fun k hk => hk.elim (fun h => .inl h.1) (fun h => .inr h.1), ?_⟩
  · rcases (mem_ins _ _ _).1 hm with rfl | hm
    · simp only [if_true]
      exact d1
    · have hne := atE_none.1 he e hm
      simp only [if_neg hne]
      exact ((h1.docs e hm).bound.step (w' := w9) (fun k hk hlt => hg.block k hlt (fun e2 => by injection e2 with e2; rw [e2] at hk; exact h.dis _ h.oks.2.1 hk.1.1))).mono (fun k hk => .inl hk.1)
  · rcases hk2 with hk2 | hk2
    · exact h.dis k hk.1 hk2.1
    · omega
  · show (insE _ S.L).length ≤ 256
    rw [len_ins]
    have := h.small
    omega
  · rcases (mem_ins _ _ _).1 hm with rfl | hm
    · exact hx
    · exact h.ids e hm
  · exact (Chg.of_below hbr (S := ok) (fun k h1 h2 => by omega)).grown hg (fun k hk => by injection hk with hk; rw [← hk]; exact .inl h.oks.2.1)
set_option maxRecDepth 100000 in
set_option maxHeartbeats 4000000 in
theorem AddOk (w : World) (h : Ix0 g base S ok okp w bm dm rv Db Dd RS ad) (hnum : S.num ≤ 1000000000000000000) (hruns : S.runs ≤ 7000000000000) (id : Int) (hx : 0 ≤ id ∧ id ≤ 2147483647) (A : Option Addr) (n c : Nat) (hl : n ≤ 65536) (he : atE S.L id = none) (hf : S.L.length ≠ 256)
    (hG : G w) (b : List Int) (hC : KB.C w A n b) (hn : n = b.length) (hc : n ≤ c) (hB : Bytes b) (l : List SW) (hq : wer b = 0) (hl2 : wds b = l) (S1 : Ix) (hS1 : (if S.flush ≤ ((cntB (layX S id b).L : Nat) : Int) then flushX (layX S id b) else layX S id b) = S1) :
    Calls Tryz.prog 17 #[at0 g, .int .i64 id, .slice A n c] w fun e w' => e = .returned (.int .i64 0) ∧ StepX w g base S1 ok okp w' := by
  have HS1 := Aside0.mk hS1
  clear hS1
  have hmm := @run_makeMap Tryz.prog
  have d1 : decide (id < 0) = false := decide_eq_false (by omega)
  have d2 : decide (2147483647 < id) = false := decide_eq_false (by omega)
  have d3 : decide ((65536 : Int) < (n : Int)) = false := decide_eq_false (by omega)
  have d4 : decide (65536 < n) = false := decide_eq_false (by omega)
  have hid : (Lit.int .i64 id).wf = true := WalkArith.wf_i64 (by omega)
  have HID := Aside0.mk hid
  have HF_ := findP w h (nwX h hnum) id hid
  rw [he] at HF_
  have HF := Aside0.mk HF_
  have HX := Aside0.mk h
  have HS := Aside0.mk h.good.srt
  have HE := Aside0.mk he
  have HG := Aside0.mk hG
  have HC := Aside0.mk hC
  have HNR := Aside0.mk (And.intro hnum hruns)
  have HXX := Aside0.mk hx
  have HF6 := Aside0.mk hf
  have hf1 : decide (((S.L.length : Nat) : Int) = 256) = false := decide_eq_false (by omega)
  have hf2 : (((S.L.length : Nat) : Int) == 256) = false := by simp; omega
  have HQ := Aside0.mk hq
  have HL2 := Aside0.mk (show (if wer b = 0 then wds b else []) = l by rw [if_pos hq]; exact hl2)
  have HLL := Aside0.mk hl2
  have HN := Aside0.mk hn
  have HBY := Aside0.mk hB
  have HL := Aside0.mk (fun (W : World) (hB : Below w.heap.size w W) => liveP W (h.step (fun k _ hlt => hB.block k hlt)) (nwX h hnum))
  obtain ⟨NN, hNN⟩ : ∃ NN, NN = l.length := ⟨_, rfl⟩
  obtain ⟨NB, hNB⟩ : ∃ NB, NB = b.length := ⟨_, rfl⟩
  have HNN := Aside0.mk hNN
  have HNB := Aside0.mk hNB
  clear h hnum he hf hG hC hq hn hB hid hruns hl2 HF_ hNN hNB
  go_enter Tryz.func17, Tryz.ntmps17
  go_upto_block 1 with (first
    | (go_at_call 53; refine HF.out.mono ?_; rintro e w1 ⟨rfl, p1⟩; have P1 := Aside0.mk p1; clear p1; simp only [lvE])
    | (go_at_call 54; refine (HL.out _ P1.out).mono ?_; rintro e w2 ⟨D, rfl, p1, p2, p3⟩; have P2 := Aside0.mk p1; have P3 := Aside0.mk p2; have P4 := Aside0.mk (below_then P1.out P1.out.size p3); clear p1 p2 p3)
    | (at_len; refine wp_len rfl _ 89 rfl _ _ Tryz.underlying89 _ D rfl P2.out ?_; rw [live_size P3.out HS.out P2.out])
    | (go_at_call 55; refine (WordsP _ (G.below HG.out P4.out) A n c b (Kd.C_below HC.out P4.out) HN.out hc HBY.out hl 0 l HQ.out HL2.out).mono ?_; rintro e w3 ⟨v3, rfl, p1, p2⟩; obtain ⟨A3, c3, e3⟩ := Kd.R_slice p1; rw [← HNN.out] at e3; subst e3; have P5 := Aside0.mk (below_then P4.out P4.out.size p2); have P6 := Aside0.mk (Kd.R_lower p1 P4.out.size); clear p1 p2)
    | (go_at_call 56; refine (Cluint8.clone _ A n c b (rdint (Kd.C_below HC.out P5.out)) (by omega)).mono ?_; rintro e w4 ⟨⟨v4, rfl, p1, p2⟩⟩; obtain ⟨A4, c4, e4⟩ := Kd.R_slice (own_B p1); rw [← HNB.out] at e4; subst e4; have P7 := Aside0.mk (below_then P5.out P5.out.size p2); have P8 := Aside0.mk (Kd.R_below P6.out p2); have P9 := Aside0.mk (Kd.R_mono (Kd.R_lower (own_B p1) P5.out.size) (fun _ _ => trivial)); clear p1 p2)
    | go_in)
  obtain ⟨ab, hab⟩ : ∃ ab, ab = w4.heap.size := ⟨_, rfl⟩
  obtain ⟨W0, hW0⟩ : ∃ W0, W0 = (w4.alloc (.map #[] 0)).alloc (.cells #[.int .i64 id, .slice A4 NB c4, .slice A3 NN c3, .map (some ab)] TDoc) := ⟨_, rfl⟩
  rw [← hab, ← hW0]
  obtain ⟨X0, M0, B04, B0⟩ := doc_new hab hW0 P7.out
  have X0 := Aside0.mk X0
  have M0 := Aside0.mk M0
  have HB0 := Aside0.mk B0
  have B04 := Aside0.mk B04
  have HAB := Aside0.mk hab
  have HW0 := Aside0.mk (show W0.heap.size = ab + 2 by rw [hW0, hab]; simp)
  clear hW0 hab
  have HWR := Aside0.mk (words_row P8.out)
  have HKS := Aside0.mk (wds_key HBY.out (by rw [← HN.out]; omega))
  have HNL := Aside0.mk (show l.length ≤ 13000000 by rw [← HLL.out]; exact wds_len HBY.out (by rw [← HN.out]; omega))
  go_wp2
  go_loopw [58] (fun v wr => ∃ (i : Nat) (D : DataW Value) (okk : List UInt8 → Nat → Prop), v = .int .i64 i ∧ i ≤ NN ∧ Aside0 (Chg (fun k => k = ab) W0 wr) ∧ Aside0 (AtX ab w.heap.size (l.take i) (fun k => k = ab ∨ W0.heap.size ≤ k) wr D okk) ∧ Aside0 (size D ≤ i)) (fun v _ => NN - (intOf v).toNat)
  case atStart => exact ⟨0, _, _, rfl, Nat.zero_le _, ⟨Chg.refl _ _⟩, ⟨by rw [List.take_zero]; exact AtX.start M0.out (by rw [HAB.out]; exact P7.out.size) (.inl rfl)⟩, ⟨Nat.le_refl _⟩⟩
  case round =>
    obtain ⟨i, D2, okk, rfl, hi, HC0, HA, HSZ⟩ := hrel
    by_cases hlt : i < NN
    · have hd : decide ((i : Int) < (NN : Int)) = true := decide_eq_true (by omega)
      have hd2 : decide (i < NN) = true := decide_eq_true hlt
      have hil : i < l.length := by rw [← HNN.out]; exact hlt
      obtain ⟨x, hx⟩ : ∃ x, l[i]? = some x := ⟨l[i], List.getElem?_eq_getElem hil⟩
      have hwr := R_chg (Kd.R_below HWR.out B04.out) HC0.out (fun k hk e => by rw [e, HAB.out] at hk; omega)
      obtain ⟨A9, c9, e9, -, hC9⟩ := Kd.R_reads hwr
      injection e9 with e9a e9b e9c
      subst e9a
      obtain ⟨a3, rfl, z0, z1, z2, z3, z4⟩ := at_T47 hC9 (i : Int) (by omega) (by omega)
      have hrd : rd_T47 l (i : Int) = x := by unfold rd_T47; simp [List.getD_eq_getElem?_getD, hx]
      rw [hrd] at z0 z1 z2 z3 z4
      simp only [Int.toNat_natCast] at z0 z1 z2 z3 z4
      have hw : wrap64 ((i : Int) + 1) = (i : Int) + 1 := by have := HNL.out; unfold wrap64; omega
      have HXX2 := Aside0.mk hx
      clear hx hwr hC9 e9b e9c hrd hil
      have y3 := pw_cell_below (Below.refl _ wr) (cell_chg (blk_cell3 X0.out) HC0.out (show ¬ (ab + 1 = ab) by omega))
      go_upto_region 17 with (fail)
      obtain ⟨wr1, hwr1⟩ : ∃ wr1, wr1 = wr.alloc (.cells #[.string x.f0, .int .i64 x.f1.f0, .int .i64 x.f1.f1, .int .i64 x.f1.f2, .int .i64 x.f1.f3] TW) := ⟨_, rfl⟩
      rw [← hwr1]
      obtain ⟨hb, hhb⟩ : ∃ hb, hb = wr.heap.size := ⟨_, rfl⟩
      rw [← hhb]
      have hb1 : Below wr.heap.size wr wr1 := by rw [hwr1]; exact below_alloc (Below.refl _ _) _
      have hx1 : wr1.heap[hb]? = some (.cells #[.string x.f0, .int .i64 x.f1.f0, .int .i64 x.f1.f1, .int .i64 x.f1.f2, .int .i64 x.f1.f3] TW (0, 0)) := by rw [hwr1, hhb]; exact heap_alloc_new wr _
      have hbd : Below wr.heap.size wr wr1.drew := below_drew hb1
      have AXD := Aside0.mk (HA.out.move hbd)
      have SD := Aside0.mk (show wr1.drew.cell? ⟨ab + 1, 3, none⟩ = some (.map (some ab)) ∧ wr1.drew.cell? ⟨hb, 0, none⟩ = some (.string x.f0) from ⟨pw_cell_below hbd y3, by have := blk_cell hx1 0; simpa using this⟩)
      have HDA := Aside0.mk (show ∀ k, okk (keyL x) k → k ≠ ab + 1 ∧ k ≠ hb from fun k hk => by
        have h1 := HA.out.sub _ k hk
        have := HW0.out
        rcases h1.1 with h2 | h2
        · exact absurd h2 h1.2.1
        · omega)
      have HDB := Aside0.mk (show ab + 1 ≠ ab ∧ hb ≠ ab from ⟨by omega, by have := HA.out.m.lt; omega⟩)
      have HWD := Aside0.mk hbd.size
      have HWB := Aside0.mk hbd
      have hks : x.f0.size ≤ maxLen := by
        have := HKS.out x (by rw [HLL.out]; exact List.mem_of_getElem? HXX2.out)
        unfold keyL at this
        rw [data_length] at this
        unfold maxLen; omega
      have hkx : keyOf Tryz.prog TSt (.string x.f0) = some (.string (keyL x)) := Go.WideMaps.keyOf_string_mk Tryz.underlying9 hks
      have HKX := Aside0.mk hkx
      have HKL := Aside0.mk (show (keyL x).length ≤ maxLen by unfold keyL; rw [data_length]; exact hks)
      have hzs : ∀ W, (zeroValue 33).run Tryz.prog W = .ok nilS W := fun W => by kernel_rfl
      obtain ⟨v5, hv5⟩ : ∃ v5, v5 = vlD nilS D2 (.string (keyL x)) := ⟨_, rfl⟩
      have HLK := Aside0.mk (fun (W : World) (okk' : List UInt8 → Nat → Prop) (h : AtX ab w.heap.size (l.take i) (fun k => k = ab ∨ W0.heap.size ≤ k) W D2 okk') => h.m.look keyS Tryz.underlying101 (hzs W) hkx)
      rw [← hv5] at HLK
      have HV5 := Aside0.mk hv5
      clear hwr1 hhb hb1 hx1 hbd hks hkx hzs hv5 y3 z0 z1 z2 z3 z4
      refine wp_region_held_drew (S := fun W => W.cell? ⟨ab + 1, 3, none⟩ = some (.map (some ab)) ∧ W.cell? ⟨hb, 0, none⟩ = some (.string x.f0)) (by kernel_rfl) SD.out (fun hS => ?_)
      refine wpAnyH_take (i := 0) (oi := { dst := some 63, op := _, type := _, pos := _, after := _, guard := _ }) (v := at0 (ab + 1)) rfl (by kernel_rfl) (by kernel_rfl) (by kernel_rfl) (fun _ _ _ h => h) (Or.inl ⟨by rfl, fun W hW => ?_⟩) hS ?_
      · (go_simp)
      try simp only [Act.put, List.setIfInBounds_toArray, List.set_cons_zero, List.set_cons_succ]
      refine wpAnyH_take (i := 1) (oi := { dst := some 64, op := _, type := _, pos := _, after := _, guard := _ }) (v := at0 (ab + 1)) rfl (by kernel_rfl) (by kernel_rfl) (by kernel_rfl) (fun _ _ _ h => h) (Or.inl ⟨by rfl, fun W hW => ?_⟩) hS ?_
      · (go_simp)
      try simp only [Act.put, List.setIfInBounds_toArray, List.set_cons_zero, List.set_cons_succ]
      refine wpAnyH_take (i := 2) (oi := { dst := some 65, op := _, type := _, pos := _, after := _, guard := _ }) (v := .pointer (some ⟨ab + 1, 3, none⟩)) rfl (by kernel_rfl) (by kernel_rfl) (by kernel_rfl) (fun _ _ _ h => h) (Or.inl ⟨by rfl, fun W hW => ?_⟩) hS ?_
      · (go_simp)
      try simp only [Act.put, List.setIfInBounds_toArray, List.set_cons_zero, List.set_cons_succ]
      refine wpAnyH_take (i := 3) (oi := { dst := some 66, op := _, type := _, pos := _, after := _, guard := _ }) (v := .map (some ab)) rfl (by kernel_rfl) (by kernel_rfl) (by kernel_rfl) (fun _ _ _ h => h) (Or.inl ⟨by rfl, fun W hW => ?_⟩) hS ?_
      · (obtain ⟨hW1, hW2⟩ := hW; go_simp)
      try simp only [Act.put, List.setIfInBounds_toArray, List.set_cons_zero, List.set_cons_succ]
      refine wpAnyH_take (i := 4) (oi := { dst := some 67, op := _, type := _, pos := _, after := _, guard := _ }) (v := .pointer (some ⟨hb, 0, none⟩)) rfl (by kernel_rfl) (by kernel_rfl) (by kernel_rfl) (fun _ _ _ h => h) (Or.inl ⟨by rfl, fun W hW => ?_⟩) hS ?_
      · (go_simp)
      try simp only [Act.put, List.setIfInBounds_toArray, List.set_cons_zero, List.set_cons_succ]
      refine wpAnyH_take (i := 5) (oi := { dst := some 68, op := _, type := _, pos := _, after := _, guard := _ }) (v := .string x.f0) rfl (by kernel_rfl) (by kernel_rfl) (by kernel_rfl) (fun _ _ _ h => h) (Or.inl ⟨by rfl, fun W hW => ?_⟩) hS ?_
      · (obtain ⟨hW1, hW2⟩ := hW; go_simp)
      try simp only [Act.put, List.setIfInBounds_toArray, List.set_cons_zero, List.set_cons_succ]
      refine wpAnyH_take (i := 6) (oi := { dst := some 69, op := _, type := _, pos := _, after := _, guard := _ }) (v := at0 (ab + 1)) rfl (by kernel_rfl) (by kernel_rfl) (by kernel_rfl) (fun _ _ _ h => h) (Or.inl ⟨by rfl, fun W hW => ?_⟩) hS ?_
      · (go_simp)
      try simp only [Act.put, List.setIfInBounds_toArray, List.set_cons_zero, List.set_cons_succ]
      refine wpAnyH_take (i := 7) (oi := { dst := some 70, op := _, type := _, pos := _, after := _, guard := _ }) (v := at0 (ab + 1)) rfl (by kernel_rfl) (by kernel_rfl) (by kernel_rfl) (fun _ _ _ h => h) (Or.inl ⟨by rfl, fun W hW => ?_⟩) hS ?_
      · (go_simp)
      try simp only [Act.put, List.setIfInBounds_toArray, List.set_cons_zero, List.set_cons_succ]
      refine wpAnyH_take (i := 8) (oi := { dst := some 71, op := _, type := _, pos := _, after := _, guard := _ }) (v := .pointer (some ⟨ab + 1, 3, none⟩)) rfl (by kernel_rfl) (by kernel_rfl) (by kernel_rfl) (fun _ _ _ h => h) (Or.inl ⟨by rfl, fun W hW => ?_⟩) hS ?_
      · (go_simp)
      try simp only [Act.put, List.setIfInBounds_toArray, List.set_cons_zero, List.set_cons_succ]
      refine wpAnyH_take (i := 9) (oi := { dst := some 72, op := _, type := _, pos := _, after := _, guard := _ }) (v := .map (some ab)) rfl (by kernel_rfl) (by kernel_rfl) (by kernel_rfl) (fun _ _ _ h => h) (Or.inl ⟨by rfl, fun W hW => ?_⟩) hS ?_
      · (obtain ⟨hW1, hW2⟩ := hW; go_simp)
      try simp only [Act.put, List.setIfInBounds_toArray, List.set_cons_zero, List.set_cons_succ]
      refine wpAnyH_take (i := 10) (oi := { dst := some 73, op := _, type := _, pos := _, after := _, guard := _ }) (v := .pointer (some ⟨hb, 0, none⟩)) rfl (by kernel_rfl) (by kernel_rfl) (by kernel_rfl) (fun _ _ _ h => h) (Or.inl ⟨by rfl, fun W hW => ?_⟩) hS ?_
      · (go_simp)
      try simp only [Act.put, List.setIfInBounds_toArray, List.set_cons_zero, List.set_cons_succ]
      refine wpAnyH_take (i := 11) (oi := { dst := some 74, op := _, type := _, pos := _, after := _, guard := _ }) (v := .string x.f0) rfl (by kernel_rfl) (by kernel_rfl) (by kernel_rfl) (fun _ _ _ h => h) (Or.inl ⟨by rfl, fun W hW => ?_⟩) hS ?_
      · (obtain ⟨hW1, hW2⟩ := hW; go_simp)
      try simp only [Act.put, List.setIfInBounds_toArray, List.set_cons_zero, List.set_cons_succ]
      refine wpAnyH_take (i := 13) (oi := { dst := some 76, op := _, type := _, pos := _, after := _, guard := _ }) (v := .int .i64 (i : Int)) rfl (by kernel_rfl) (by kernel_rfl) (by kernel_rfl) (fun _ _ _ h => h) (Or.inl ⟨by rfl, fun W hW => ?_⟩) hS ?_
      · (go_simp)
      try simp only [Act.put, List.setIfInBounds_toArray, List.set_cons_zero, List.set_cons_succ]
      refine wpAnyH_ready (rs := [12, 14]) (by kernel_rfl) (by simp) ?_
      refine AllReadyH.cons (o := { dst := some 75, op := _, type := _, pos := _, after := _, guard := _ }) rfl (fun K hK => ?_) (AllReadyH.cons (o := { dst := some 77, op := _, type := _, pos := _, after := _, guard := _ }) rfl (fun K hK => ?_) AllReadyH.nil)
      · have hlk := HLK.out _ _ AXD.out
        go_simp
        refine hK.out _ _ hS (fun hS2 => ?_)
        clear hK K hS
        have hS := hS2
        clear hS2
        try simp only [Act.put, List.setIfInBounds_toArray, List.set_cons_zero, List.set_cons_succ]
        refine wpAnyH_ready (rs := [14]) (by kernel_rfl) (by simp) ?_
        refine AllReadyH.cons (o := { dst := some 77, op := _, type := _, pos := _, after := _, guard := _ }) rfl (fun K hK => ?_) AllReadyH.nil
        refine Kd.R_lit_step KI 0 TI (by rfl) (N := 77) rfl (w0 := wr1.drew) (xs := [(i : Int)]) (inner := [.int .i64 (i : Int)]) (ok := fun _ => True) (okp := fun _ => True) ?hr (Reps.one rfl (Reps.none _ _)) (fun _ hk => hk) trivial (Below.refl _ _) (Nat.zero_le _) (by simp) (fun v6 w6 hR6 hb6 hg6 hat6 => ?_)
        case hr => first | (go_simp; done) | (go_simp; rfl)
        obtain ⟨A6, c6, rfl, hc6, hC6⟩ := Kd.R_reads hR6
        have B6 := Aside0.mk (lay_below hg6)
        have C6 := Aside0.mk hC6
        have AX6 := Aside0.mk (AXD.out.move B6.out)
        have S6 := Aside0.mk (And.intro (pw_cell_below B6.out hS.1) (pw_cell_below B6.out hS.2))
        clear hR6 hb6 hg6 hat6 hC6
        refine hK.out _ _ S6.out (fun hS2 => ?_)
        clear hK K hS
        have hS := hS2
        clear hS2
        try simp only [Act.put, List.setIfInBounds_toArray, List.set_cons_zero, List.set_cons_succ]
        refine wpAnyH_ready (rs := [15]) (by kernel_rfl) (by simp) ?_
        refine AllReadyH.cons (o := { dst := some 78, op := _, type := _, pos := _, after := _, guard := _ }) rfl (fun K hK => ?_) AllReadyH.nil
        refine Kd.R_append_rows_step KI (Rr := KI.K w6) (w0 := w6) w.heap.size (by rfl) (.tmp 75) (.tmp 77) 33 TI (.int .i64 0) 8 rfl Tryz.underlying33 infoIn rfl (by decide) (by decide) v5 (ords (l.take i) (keyL x)) [(i : Int)] A6 [(i : Int)].length c6 (fun k => okk (keyL x) k ∨ w6.heap.size ≤ k) (fun _ => False) rfl rfl (by have h := AX6.out.row (keyL x); rw [← HV5.out] at h; exact Kd.R_mono h (fun k hk => .inl hk)) C6.out (fun x cs h => h) (fun _ h => h.elim) (fun k hk => .inr hk) (Below.refl _ _) (Nat.le_trans HB0.out.size (Nat.le_trans HC0.out.size (Nat.le_trans HWD.out B6.out.size))) (by have := ords_len (l.take i) (keyL x); rw [List.length_take] at this; simp only [List.length_singleton]; have := HNL.out; omega) (fun v7 w7 hR7 hb7 hg7 hat7 => ?_)
        have R7 := Aside0.mk hR7
        have G7 := Aside0.mk hg7
        have HOB := Aside0.mk (show ∀ k, v5.ownBlock = some k → okk (keyL x) k from fun k hk => by rw [HV5.out] at hk; exact (AX6.out.row (keyL x)).1 k hk)
        have S7 := Aside0.mk (two_cells S6.out hg7 (fun k hk => HDA.out k (HOB.out k hk)))
        clear hR7 hb7 hg7 hat7
        refine hK.out _ _ S7.out (fun hS2 => ?_)
        clear hK K hS
        have hS := hS2
        clear hS2
        try simp only [Act.put, List.setIfInBounds_toArray, List.set_cons_zero, List.set_cons_succ]
        have M7 := AX6.out.m.move (G7.out.block ab AX6.out.m.lt (fun e => (AX6.out.sub (keyL x) ab (HOB.out ab e.symm)).2.1 rfl))
        obtain ⟨w8, hrun8, h8, hg8⟩ := World.ownsMap.update (P := Tryz.prog) (t := 101) M7 keyS Tryz.underlying101 (show size D2 < maxLen by have := HSZ.out; have := HNL.out; have := HNN.out; unfold maxLen; omega) HKX.out (show RV v7 = some (.held v7, []) from rfl)
        have M8 := Aside0.mk (MapV.of h8)
        have G8 := Aside0.mk hg8
        have S8 := Aside0.mk (two_cells S7.out hg8 (fun k hk => by injection hk with hk; subst hk; exact ⟨Ne.symm HDB.out.1, Ne.symm HDB.out.2⟩))
        clear h8 hg8 M7
        refine wpAnyH_ready (rs := [16]) (by kernel_rfl) (by simp) ?_
        refine AllReadyH.cons (o := { dst := none, op := _, type := _, pos := _, after := _, guard := _ }) rfl (fun K hK => ?_) AllReadyH.nil
        go_simp
        refine hK.out _ _ S8.out (fun hS2 => ?_)
        clear hK K hS
        have hS := hS2
        clear hS2
        try simp only [Act.put, List.setIfInBounds_toArray, List.set_cons_zero, List.set_cons_succ]
        refine wpAnyH_done (by kernel_rfl) ?_ _
        go_wp2
        go_roundw
        case rel => exact ⟨i + 1, _, _, by go_num, by omega, ⟨add_chg HC0.out HWB.out B6.out G7.out HOB.out (fun k hk => ⟨(HA.out.sub _ k hk).1, (HA.out.sub _ k hk).2.1⟩) G8.out⟩, ⟨add_next HXX2.out AX6.out (Nat.le_trans HC0.out.size (Nat.le_trans HWD.out B6.out.size)) HKL.out R7.out HV5.out G7.out M8.out G8.out⟩, ⟨at_size (HA.out.m.tidy keyS) HSZ.out⟩⟩
        case measure => exact less_ hw hlt
      · refine Kd.R_lit_step KI 0 TI (by rfl) (N := 77) rfl (w0 := wr1.drew) (xs := [(i : Int)]) (inner := [.int .i64 (i : Int)]) (ok := fun _ => True) (okp := fun _ => True) ?hr (Reps.one rfl (Reps.none _ _)) (fun _ hk => hk) trivial (Below.refl _ _) (Nat.zero_le _) (by simp) (fun v6 w6 hR6 hb6 hg6 hat6 => ?_)
        case hr => first | (go_simp; done) | (go_simp; rfl)
        obtain ⟨A6, c6, rfl, hc6, hC6⟩ := Kd.R_reads hR6
        have B6 := Aside0.mk (lay_below hg6)
        have C6 := Aside0.mk hC6
        have AX6 := Aside0.mk (AXD.out.move B6.out)
        have S6 := Aside0.mk (And.intro (pw_cell_below B6.out hS.1) (pw_cell_below B6.out hS.2))
        clear hR6 hb6 hg6 hat6 hC6
        refine hK.out _ _ S6.out (fun hS2 => ?_)
        clear hK K hS
        have hS := hS2
        clear hS2
        try simp only [Act.put, List.setIfInBounds_toArray, List.set_cons_zero, List.set_cons_succ]
        have hlk := HLK.out _ _ AX6.out
        refine wpAnyH_ready (rs := [12]) (by kernel_rfl) (by simp) ?_
        refine AllReadyH.cons (o := { dst := some 75, op := _, type := _, pos := _, after := _, guard := _ }) rfl (fun K hK => ?_) AllReadyH.nil
        go_simp
        refine hK.out _ _ hS (fun hS2 => ?_)
        clear hK K hS
        have hS := hS2
        clear hS2
        try simp only [Act.put, List.setIfInBounds_toArray, List.set_cons_zero, List.set_cons_succ]
        refine wpAnyH_ready (rs := [15]) (by kernel_rfl) (by simp) ?_
        refine AllReadyH.cons (o := { dst := some 78, op := _, type := _, pos := _, after := _, guard := _ }) rfl (fun K hK => ?_) AllReadyH.nil
        refine Kd.R_append_rows_step KI (Rr := KI.K w6) (w0 := w6) w.heap.size (by rfl) (.tmp 75) (.tmp 77) 33 TI (.int .i64 0) 8 rfl Tryz.underlying33 infoIn rfl (by decide) (by decide) v5 (ords (l.take i) (keyL x)) [(i : Int)] A6 [(i : Int)].length c6 (fun k => okk (keyL x) k ∨ w6.heap.size ≤ k) (fun _ => False) rfl rfl (by have h := AX6.out.row (keyL x); rw [← HV5.out] at h; exact Kd.R_mono h (fun k hk => .inl hk)) C6.out (fun x cs h => h) (fun _ h => h.elim) (fun k hk => .inr hk) (Below.refl _ _) (Nat.le_trans HB0.out.size (Nat.le_trans HC0.out.size (Nat.le_trans HWD.out B6.out.size))) (by have := ords_len (l.take i) (keyL x); rw [List.length_take] at this; simp only [List.length_singleton]; have := HNL.out; omega) (fun v7 w7 hR7 hb7 hg7 hat7 => ?_)
        have R7 := Aside0.mk hR7
        have G7 := Aside0.mk hg7
        have HOB := Aside0.mk (show ∀ k, v5.ownBlock = some k → okk (keyL x) k from fun k hk => by rw [HV5.out] at hk; exact (AX6.out.row (keyL x)).1 k hk)
        have S7 := Aside0.mk (two_cells S6.out hg7 (fun k hk => HDA.out k (HOB.out k hk)))
        clear hR7 hb7 hg7 hat7
        refine hK.out _ _ S7.out (fun hS2 => ?_)
        clear hK K hS
        have hS := hS2
        clear hS2
        try simp only [Act.put, List.setIfInBounds_toArray, List.set_cons_zero, List.set_cons_succ]
        have M7 := AX6.out.m.move (G7.out.block ab AX6.out.m.lt (fun e => (AX6.out.sub (keyL x) ab (HOB.out ab e.symm)).2.1 rfl))
        obtain ⟨w8, hrun8, h8, hg8⟩ := World.ownsMap.update (P := Tryz.prog) (t := 101) M7 keyS Tryz.underlying101 (show size D2 < maxLen by have := HSZ.out; have := HNL.out; have := HNN.out; unfold maxLen; omega) HKX.out (show RV v7 = some (.held v7, []) from rfl)
        have M8 := Aside0.mk (MapV.of h8)
        have G8 := Aside0.mk hg8
        have S8 := Aside0.mk (two_cells S7.out hg8 (fun k hk => by injection hk with hk; subst hk; exact ⟨Ne.symm HDB.out.1, Ne.symm HDB.out.2⟩))
        clear h8 hg8 M7
        refine wpAnyH_ready (rs := [16]) (by kernel_rfl) (by simp) ?_
        refine AllReadyH.cons (o := { dst := none, op := _, type := _, pos := _, after := _, guard := _ }) rfl (fun K hK => ?_) AllReadyH.nil
        go_simp
        refine hK.out _ _ S8.out (fun hS2 => ?_)
        clear hK K hS
        have hS := hS2
        clear hS2
        try simp only [Act.put, List.setIfInBounds_toArray, List.set_cons_zero, List.set_cons_succ]
        refine wpAnyH_done (by kernel_rfl) ?_ _
        go_wp2
        go_roundw
        case rel => exact ⟨i + 1, _, _, by go_num, by omega, ⟨add_chg HC0.out HWB.out B6.out G7.out HOB.out (fun k hk => ⟨(HA.out.sub _ k hk).1, (HA.out.sub _ k hk).2.1⟩) G8.out⟩, ⟨add_next HXX2.out AX6.out (Nat.le_trans HC0.out.size (Nat.le_trans HWD.out B6.out.size)) HKL.out R7.out HV5.out G7.out M8.out G8.out⟩, ⟨at_size (HA.out.m.tidy keyS) HSZ.out⟩⟩
        case measure => exact less_ hw hlt
    · have hd : decide ((i : Int) < (NN : Int)) = false := decide_eq_false (by omega)
      have hd2 : decide (i < NN) = false := decide_eq_false hlt
      have hiN : i = NN := by omega
      subst hiN
      have hat := HA.out
      rw [List.take_of_length_le (by rw [← HNN.out]; exact Nat.le_refl _)] at hat
      have HAT := Aside0.mk hat
      have c1 := add_cell HX.out.blk HB0.out HC0.out (by rw [HAB.out]; exact P7.out.size) 1
      simp only [List.getElem?_toArray, List.getElem?_cons_zero, List.getElem?_cons_succ, ixCells] at c1
      have HMB := Aside0.mk (add_map HX.out.mb HB0.out HC0.out (by rw [HAB.out]; exact P7.out.size))
      clear hat HA
      go_upto_region 20 with (first
        | (at_mapUpdate; refine wp_store rfl _ _ _ 89 rfl TI _ keyI Tryz.underlying89 bm Db rfl HMB.out (by rw [HX.out.good.sb]; have := cntB_le256 HX.out.small; unfold maxLen; omega) _ _ (ik id) rfl rfl (keyOf_int_mk Tryz.underlying3 HID.out) ?_; intro w9 q1 q2; have Q1 := Aside0.mk q1; have Q2 := Aside0.mk q2; clear q1 q2; go_frame)
        | go_in)
      have hix := add_ix HX.out HE.out HXX.out HF6.out (by rw [HAB.out]; exact P7.out.size) HB0.out B04.out HAB.out HW0.out HC0.out X0.out (by have h := P9.out; exact h) HWR.out HLL.out HAT.out Q1.out Q2.out
      have HIX := Aside0.mk hix
      obtain ⟨ok1, okp1, hi1, hi2, hi3, hi4⟩ := hix
      obtain ⟨bm', dm', rv', Db', Dd', RS', ad', hi5⟩ := hi1
      have e1 : w9.cell? ⟨g, 1, none⟩ = some (.map (some bm')) := by simp [World.cell?, hi5.blk]
      have e0 : w9.cell? ⟨g, 0, none⟩ = some (.int .i64 S.flush) := by simp [World.cell?, hi5.blk]; rfl
      have e1n : ∀ nq, (w9.drewN nq).cell? ⟨g, 1, none⟩ = some (.map (some bm')) := fun nq => e1
      have e0n : ∀ nq, (w9.drewN nq).cell? ⟨g, 0, none⟩ = some (.int .i64 S.flush) := fun nq => e0
      have hlen : ∀ nq ty, (Builtin.len_ #[89] ty #[.map (some bm')]).run Tryz.prog (w9.drewN nq) = .ok (.int .i64 (size Db')) (w9.drewN nq) := fun nq ty => World.ownsMap.len (hi5.mb.below (pw_below_drewN (Below.refl _ _) nq)) Tryz.underlying89 ty
      rw [hi5.good.sb] at hlen
      have HI4 := Aside0.mk hi4
      have HI2 := Aside0.mk hi2
      have HI3 := Aside0.mk hi3
      have HI5 := Aside0.mk (show IsIdx g base (layX S id b) ok1 okp1 w9 from ⟨bm', dm', rv', Db', Dd', RS', ad', hi5⟩)
      clear hi2 hi3 hi4 hi5
      obtain ⟨q, hq⟩ : ∃ q, q = cntB (layX S id b).L := ⟨_, rfl⟩
      rw [← hq] at hlen
      have HQQ := Aside0.mk hq
      clear hq
      by_cases hfl : S.flush ≤ (q : Int)
      · have hd5 : decide (S.flush ≤ (q : Int)) = true := decide_eq_true hfl
        have HIF := Aside0.mk (show S.flush ≤ ((cntB (layX S id b).L : Nat) : Int) by rw [← HQQ.out]; exact hfl)
        have HFL := Aside0.mk (fun (W : World) (hB : Below w9.heap.size w9 W) => FlushP W (HI5.out.below hB) HNR.out.1 (show (layX S id b).runs ≤ 8000000000000 from Nat.le_trans HNR.out.2 (by decide)))
        have HC9 := Aside0.mk (show cntB (layX S id b).L ≠ 0 from fun e => by have := HIF.out; have := HX.out.fl.1; omega)
        go_upto_region 20 with (fail)
        go_quiet (fail)
        go_wp2_with (first
          | (go_at_call 34; refine (HFL.out _ (pw_below_drewN (Below.refl _ _) _)).mono ?_; rintro e w10 ⟨rfl, p1⟩; have PF := Aside0.mk p1; clear p1))
        go_ret
        have hs1 := HS1.out
        rw [if_pos HIF.out] at hs1
        rw [← hs1]
        have hp := PF.out
        rw [if_neg HC9.out] at hp
        exact ⟨rfl, StepX.after (HI4.out.drewN _) hp HI2.out HI3.out⟩
      · have hd5 : decide (S.flush ≤ (q : Int)) = false := decide_eq_false hfl
        have HIF := Aside0.mk (show ¬ S.flush ≤ ((cntB (layX S id b).L : Nat) : Int) by rw [← HQQ.out]; exact hfl)
        go_upto_region 20 with (fail)
        go_quiet (fail)
        go_wp2
        go_ret
        have hs1 := HS1.out
        rw [if_neg (Int.not_le.2 HIF.out)] at hs1
        rw [← hs1]
        exact ⟨rfl, StepX.after HI4.out (StepX.below HI5.out (pw_below_drewN (Below.refl _ _) _)) HI2.out HI3.out⟩
end
end Go.Proofs.YtdambnclbpipdaaGreatDoor.Mo
namespace Go.Proofs.YtdambnclbpipdaaGreatDoor.Mp
set_option linter.unusedVariables false
set_option linter.unusedSimpArgs false
open Go.Proofs.YtdambnclbpipdaaGreatDoor.Ux (Bytes)
open Go.RowKit Go.Maps Go.Proofs.YtdambnclbpipdaaGreatDoorW.PrintWords Go.Proofs.YtdambnclbpipdaaGreatDoor.Hp Go.Proofs.YtdambnclbpipdaaGreatDoor.Fm Go.Proofs.YtdambnclbpipdaaGreatDoor.X Go.Proofs.YtdambnclbpipdaaGreatDoor.Va Go.Proofs.YtdambnclbpipdaaGreatDoor.Ma Go.Proofs.YtdambnclbpipdaaGreatDoor.Mb Go.Proofs.YtdambnclbpipdaaGreatDoor.Mc Go.Proofs.YtdambnclbpipdaaGreatDoor.Mi Go.Proofs.YtdambnclbpipdaaGreatDoor.Mn Go.Proofs.YtdambnclbpipdaaGreatDoor.Mo Go.Proofs.YtdambnclbpipdaaGreatDoor.Sga
theorem AddP {g base : Nat} {S : Ix} {ok okp : Nat → Prop} (w : World) (hG : G w) (h : IsIdx g base S ok okp w) (hnum : S.num ≤ 1000000000000000000) (hruns : S.runs ≤ 7000000000000) (id : Int) (A : Option Addr) (n c : Nat) (b : List Int) (hC : KB.C w A n b) (hn : n = b.length) (hc : n ≤ c) (hB : Bytes b)
    (E : Int) (hE : addE S id b = E) (S1 : Ix) (hS1 : addX S id b = S1) :
    Calls Tryz.prog 17 #[at0 g, .int .i64 id, .slice A n c] w fun e w' => e = .returned (.int .i64 E) ∧ StepX w g base S1 ok okp w' := by
  have hkeep : ∀ {v : Int} (x : Int), addE S id b = x → x ≠ 0 → v = x → (Calls Tryz.prog 17 #[at0 g, .int .i64 id, .slice A n c] w fun e w' => e = .returned (.int .i64 v) ∧ Below w.heap.size w w') → Calls Tryz.prog 17 #[at0 g, .int .i64 id, .slice A n c] w fun e w' => e = .returned (.int .i64 E) ∧ StepX w g base S1 ok okp w' := by
    intro v x h1 h2 h3 h4
    have e1 : S1 = S := by rw [← hS1]; unfold addX; rw [if_neg (by rw [h1]; exact h2)]
    rw [← hE, h1, e1, ← h3]
    exact h4.mono fun e w' ⟨k1, k2⟩ => ⟨k1, StepX.below h k2⟩
  by_cases h1 : id < 0 ∨ 2147483647 < id
  · exact hkeep 1 (by unfold addE; rw [if_pos h1]) (by decide) rfl ((AddArg w id h1 _).mono fun e w' ⟨k1, k2⟩ => ⟨k1, k2 ▸ Below.refl _ _⟩)
  by_cases h2 : 65536 < b.length
  · exact hkeep 3 (by unfold addE; rw [if_neg h1, if_pos h2]) (by decide) rfl ((AddLong w id (by omega) A n c (by omega)).mono fun e w' ⟨k1, k2⟩ => ⟨k1, k2 ▸ Below.refl _ _⟩)
  obtain ⟨bm, dm, rv, Db, Dd, RS, ad, h⟩ := h
  cases h3 : atE S.L id with
  | some e => exact hkeep 9 (by unfold addE; rw [if_neg h1, if_neg h2, h3]; rfl) (by decide) rfl (AddThere w h hnum id (by omega) A n c (by omega) e h3)
  | none =>
    by_cases h4 : S.L.length = 256
    · exact hkeep 11 (by unfold addE; rw [if_neg h1, if_neg h2, h3, if_neg (by simp), if_pos h4]) (by decide) rfl (AddFull w h hnum id (by omega) A n c (by omega) h3 h4)
    · have e0 : addE S id b = wer b := by unfold addE; rw [if_neg h1, if_neg h2, h3, if_neg (by simp), if_neg h4]
      obtain ⟨q, hq⟩ : ∃ q, wer b = q := ⟨_, rfl⟩
      by_cases h5 : q = 0
      · subst h5
        have e2 : E = 0 := by rw [← hE, e0, hq]
        rw [e2]
        exact AddOk w h hnum hruns id (by omega) A n c (by omega) h3 h4 hG b hC hn hc hB _ hq rfl S1 ((show addX S id b = _ from if_pos (show addE S id b = 0 by rw [e0, hq])).symm.trans hS1)
      · exact hkeep q (by rw [e0, hq]) h5 rfl (AddWer w h hnum id (by omega) A n c (by omega) h3 h4 hG b hC hn hc hB q hq h5)
end Go.Proofs.YtdambnclbpipdaaGreatDoor.Mp
namespace Go.Proofs.YtdambnclbpipdaaGreatDoor.Mq
set_option linter.unusedVariables false
set_option linter.unusedSimpArgs false
open Go.Proofs.YtdambnclbpipdaaGreatDoor.Ux (Bytes)
open Go.RowKit Go.Maps Go.Proofs.YtdambnclbpipdaaGreatDoorW.PrintWords Go.Proofs.YtdambnclbpipdaaGreatDoor.Hp Go.Proofs.YtdambnclbpipdaaGreatDoor.Fm Go.Proofs.YtdambnclbpipdaaGreatDoor.X Go.Proofs.YtdambnclbpipdaaGreatDoor.Va Go.Proofs.YtdambnclbpipdaaGreatDoor.Ma Go.Proofs.YtdambnclbpipdaaGreatDoor.Mb Go.Proofs.YtdambnclbpipdaaGreatDoor.Mc Go.Proofs.YtdambnclbpipdaaGreatDoor.Me Go.Proofs.YtdambnclbpipdaaGreatDoor.Mi Go.Proofs.YtdambnclbpipdaaGreatDoor.Mo Go.Proofs.YtdambnclbpipdaaGreatDoor.Sga
section
variable {g base : Nat} {S : Ix} {ok okp : Nat → Prop}
theorem DocSome (w : World) (h : IsIdx g base S ok okp w) (hnum : S.num ≤ 1000000000000000000) (id : Int) (hid : (Lit.int .i64 id).wf = true) (x : En) (he : atE S.L id = some x) (hlen : x.b.length ≤ 65536) :
    Calls Tryz.prog 36 #[at0 g, .int .i64 id] w fun e w' => ∃ v, e = .returned (.tuple #[v, .bool true]) ∧ KB.R TB w' w.heap.size (fun _ => True) v x.b ∧ Below w.heap.size w w' := by
  obtain ⟨bm, dm, rv, Db, Dd, RS, ad, h⟩ := h
  have HF_ := findP w h (nwX h hnum) id hid
  rw [he] at HF_
  have HF := Aside0.mk HF_
  have hd := h.docs x (atE_mem he).1
  have HD := Aside0.mk hd
  clear h hnum he HF_ hd
  go_enter Tryz.func36, Tryz.ntmps36
  go_upto_region 4 with (first
    | (go_at_call 53; refine HF.out.mono ?_; rintro e w1 ⟨rfl, p1⟩; have P1 := Aside0.mk p1; clear p1; simp only [lvE]))
  obtain ⟨bv, wv, ab, k1, k2, k3, k4, k5, k6⟩ := HD.out.below P1.out
  obtain ⟨A, c, e1, hc, hC⟩ := Kd.R_reads k4
  subst e1
  have c1 := blk_cell k1 1
  simp only [List.getElem?_toArray, List.getElem?_cons_zero, List.getElem?_cons_succ] at c1
  have HCl := Aside0.mk (Cluint8.clone w1 A x.b.length c x.b (rdint hC) (by omega))
  clear k1 k2 k3 k4 k5 k6 hC
  go_wp2_with (first
    | (go_at_call 56; refine HCl.out.mono ?_; rintro e w4 ⟨⟨v4, rfl, p1, p2⟩⟩; have P7 := Aside0.mk (below_then P1.out P1.out.size p2); have P9 := Aside0.mk (Kd.R_mono (Kd.R_lower (own_B p1) P1.out.size) (fun _ _ => trivial)); clear p1 p2))
  go_ret2
  exact ⟨_, rfl, P9.out, P7.out⟩
end
end Go.Proofs.YtdambnclbpipdaaGreatDoor.Mq
namespace Go.Proofs.YtdambnclbpipdaaGreatDoor.Mr
set_option linter.unusedVariables false
set_option linter.unusedSimpArgs false
open Go.RowKit Go.Maps Go.Proofs.YtdambnclbpipdaaGreatDoorW.PrintWords Go.Proofs.YtdambnclbpipdaaGreatDoor.Hp Go.Proofs.YtdambnclbpipdaaGreatDoor.Fm Go.Proofs.YtdambnclbpipdaaGreatDoor.X Go.Proofs.YtdambnclbpipdaaGreatDoor.Va Go.Proofs.YtdambnclbpipdaaGreatDoor.Ma Go.Proofs.YtdambnclbpipdaaGreatDoor.Mb Go.Proofs.YtdambnclbpipdaaGreatDoor.Mc Go.Proofs.YtdambnclbpipdaaGreatDoor.Me Go.Proofs.YtdambnclbpipdaaGreatDoor.Mi Go.Proofs.YtdambnclbpipdaaGreatDoor.Mo Go.Proofs.YtdambnclbpipdaaGreatDoor.Sga Go.Proofs.YtdambnclbpipdaaGreatDoor.Wd Go.Proofs.YtdambnclbpipdaaGreatDoor.Wj
theorem empty_W (w : World) : kW.R TW (w.alloc (.cells #[] TW)) w.heap.size (fun _ => True) (.slice (some ⟨w.heap.size, 0, none⟩) 0 0) [] :=
  ⟨fun _ _ => trivial, [], ⟨rfl, .inr ⟨w.heap.size, 0, #[], rfl, Nat.le_refl _, heap_alloc_new w _, Nat.le_refl _, by simp [maxLen], rfl, rfl⟩⟩, Reps.none _ _⟩
set_option maxHeartbeats 1000000 in
theorem CloneW (w : World) (A : Option Addr) (n c : Nat) (l : List SW) (hC : kW.C w A n l) (hl : n ≤ 1000000000000) :
    Calls Tryz.prog 59 #[.slice A n c] w fun e w' => ∃ v, e = .returned v ∧ kW.R TW w' w.heap.size (fun _ => True) v l ∧ Below w.heap.size w w' := by
  have hn := fun w : World => Lib.run_eql_slice_nil (P := Tryz.prog) w 35 TW A n c 0 0 Tryz.underlying35
  cases A with
  | none =>
    have h0 : l = [] := by
      have h1 := hC.1
      rcases Nat.eq_zero_or_pos n with h2 | h2
      · exact List.eq_nil_of_length_eq_zero (by omega)
      · obtain ⟨ad, h, _⟩ := hC.2.2 h2; cases h
    subst h0
    clear hC hl
    go_enter Tryz.func59, Tryz.ntmps59
    go_wp2
    go_ret
    exact ⟨_, rfl, Kd.R_nil _ _ _ _ _, Below.refl _ _⟩
  | some ad =>
    have H := Aside0.mk hC
    have HL := Aside0.mk hC.1
    clear hC
    go_enter Tryz.func59, Tryz.ntmps59
    go_wp2_with (at_builtin; go_must (refine Kd.R_append_rows kW (Rr := kW.K (w.alloc (.cells #[] TW))) (w0 := w) w.heap.size rfl (.tmp 5) (.tmp 6) 35 TW (.agg #[.string ⟨#[]⟩, .int .i64 0, .int .i64 0, .int .i64 0, .int .i64 0]) 48 rfl Tryz.underlying35 infoWd rfl (by decide) (by decide) (.slice (some ⟨w.heap.size, 0, none⟩) 0 0) [] l (some ad) n c (fun _ => True) (fun _ => False) rfl rfl (empty_W w) (Kd.C_below H.out (below_alloc (Below.refl _ _) _)) (fun x cs h => kW_KM x cs h) (fun _ h => h.elim) (fun _ _ => trivial) (below_alloc (Below.refl _ _) _) (by simp) (by simp; omega) ?hh))
    case hh =>
      intro v1 w1 hR hb hg hat
      obtain ⟨A1, c1, e1⟩ := Kd.R_slice hR
      subst e1
      have HP := Aside0.mk hR
      have HB := Aside0.mk hb
      clear hat hR hb hg
      go_wp2
      go_ret
      exact ⟨_, rfl, by simpa using HP.out, HB.out⟩
section
variable {g base : Nat} {S : Ix} {ok okp : Nat → Prop}
theorem WordsSome (w : World) (h : IsIdx g base S ok okp w) (hnum : S.num ≤ 1000000000000000000) (id : Int) (hid : (Lit.int .i64 id).wf = true) (x : En) (he : atE S.L id = some x) (l : List SW) (hl : wds x.b = l) (hlen : l.length ≤ 13000000) :
    Calls Tryz.prog 20 #[at0 g, .int .i64 id] w fun e w' => ∃ v, e = .returned v ∧ kW.R TW w' w.heap.size (fun _ => True) v l ∧ Below w.heap.size w w' := by
  obtain ⟨bm, dm, rv, Db, Dd, RS, ad, h⟩ := h
  have HF_ := findP w h (nwX h hnum) id hid
  rw [he] at HF_
  have HF := Aside0.mk HF_
  have hd := h.docs x (atE_mem he).1
  have HD := Aside0.mk hd
  have HL := Aside0.mk hl
  clear h hnum he HF_ hd hl
  go_enter Tryz.func20, Tryz.ntmps20
  go_upto_region 4 with (first
    | (go_at_call 53; refine HF.out.mono ?_; rintro e w1 ⟨rfl, p1⟩; have P1 := Aside0.mk p1; clear p1; simp only [lvE]))
  obtain ⟨bv, wv, ab, k1, k2, k3, k4, k5, k6⟩ := HD.out.below P1.out
  rw [HL.out] at k5
  obtain ⟨A, c, e1, hc, hC⟩ := Kd.R_reads k5
  subst e1
  have c1 := blk_cell k1 2
  simp only [List.getElem?_toArray, List.getElem?_cons_zero, List.getElem?_cons_succ] at c1
  have HCl := Aside0.mk (CloneW w1 A l.length c l hC (by omega))
  clear k1 k2 k3 k4 k5 k6 hC
  go_wp2_with (first
    | (go_at_call 59; refine HCl.out.mono ?_; rintro e w4 ⟨v4, rfl, p1, p2⟩; have P7 := Aside0.mk (below_then P1.out P1.out.size p2); have P9 := Aside0.mk (Kd.R_lower p1 P1.out.size); clear p1 p2))
  go_ret
  exact ⟨_, rfl, P9.out, P7.out⟩
end
end Go.Proofs.YtdambnclbpipdaaGreatDoor.Mr
namespace Go.Proofs.YtdambnclbpipdaaGreatDoor.Clint
set_option linter.unusedVariables false
set_option linter.unusedSimpArgs false
open Go.RowKit Go.Proofs.YtdambnclbpipdaaGreatDoorW.PrintWords Go.Proofs.YtdambnclbpipdaaGreatDoor.Hp
theorem info_e : (Tryz.prog.info? 3).map (fun i => (i.zero, i.size, i.bytes)) = some (some (.int .i64 0), 1, 8) := by kernel_rfl
set_option maxHeartbeats 1000000 in
theorem clone (w : World) (A : Option Addr) (n c : Nat) (xs : List Int) (HR : ReadsInt w .i64 A n xs) (hl : n * 8 ≤ 140737488355328) :
    Calls Tryz.prog 62 #[.slice A n c] w fun e w' => Aside0 (∃ v, e = .returned v ∧ w'.ownsRow w.heap.size 3 1 v xs.length (nums .i64 xs) ∧ Below w.heap.size w w') := by
  have hn := fun w : World => Lib.run_eql_slice_nil (P := Tryz.prog) w 33 3 A n c 0 0 Tryz.underlying33
  cases A with
  | none =>
    have h0 : xs = [] := by
      have h1 := HR.1
      rcases Nat.eq_zero_or_pos n with h2 | h2
      · exact List.eq_nil_of_length_eq_zero (by omega)
      · obtain ⟨ad, h, _⟩ := HR.2.2 h2; cases h
    subst h0
    clear HR hl
    go_enter Tryz.func62, Tryz.ntmps62
    go_wp2
    go_ret
    exact ⟨_, rfl, own_nil _ _ _ _, Below.refl _ _⟩
  | some ad =>
    have hm := HR.2.1
    have hlen := HR.1
    have H := Aside0.mk HR
    clear HR
    go_enter Tryz.func62, Tryz.ntmps62
    have HL := Aside0.mk hlen
    clear hlen
    go_wp2_with (at_builtin; go_must (refine print_append_row (w0 := w) w.heap.size rfl (.tmp 5) (.tmp 6) 33 3 .i64 8 rfl Tryz.underlying33 info_e (by decide) (.slice (some ⟨w.heap.size, 0, none⟩) 0 0) [] xs (some ad) n c rfl rfl ?ho (H.out.below (below_alloc (Below.refl _ _) _)) (below_alloc (Below.refl _ _) _) ?hb ?hl ?hh))
    case ho => exact ⟨rfl, .inr ⟨w.heap.size, 0, #[], rfl, Nat.le_refl _, heap_alloc_new w _, Nat.le_refl _, by simp [maxLen], rfl, rfl⟩⟩
    case hb => simp
    case hl => simp; omega
    case hh =>
      intro v1 w1 hown hb hg hat
      obtain ⟨A1, c1, rfl⟩ := own_slice hown
      have HP := Aside0.mk hown
      clear hat hown
      go_wp2
      go_ret
      exact ⟨_, rfl, by simpa using HP.out, hb⟩
end Go.Proofs.YtdambnclbpipdaaGreatDoor.Clint
namespace Go.Proofs.YtdambnclbpipdaaGreatDoor.Ms
set_option linter.unusedVariables false
set_option linter.unusedSimpArgs false
open Go.RowKit Go.Maps Go.Proofs.YtdambnclbpipdaaGreatDoorW.PrintWords Go.Proofs.YtdambnclbpipdaaGreatDoor.Hp Go.Proofs.YtdambnclbpipdaaGreatDoor.Fm Go.Proofs.YtdambnclbpipdaaGreatDoor.X Go.Proofs.YtdambnclbpipdaaGreatDoor.Va Go.Proofs.YtdambnclbpipdaaGreatDoor.Ma Go.Proofs.YtdambnclbpipdaaGreatDoor.Mb Go.Proofs.YtdambnclbpipdaaGreatDoor.Mc Go.Proofs.YtdambnclbpipdaaGreatDoor.Me Go.Proofs.YtdambnclbpipdaaGreatDoor.Mg Go.Proofs.YtdambnclbpipdaaGreatDoor.Mf Go.Proofs.YtdambnclbpipdaaGreatDoor.Mi Go.Proofs.YtdambnclbpipdaaGreatDoor.Ml Go.Proofs.YtdambnclbpipdaaGreatDoor.Mm Go.Proofs.YtdambnclbpipdaaGreatDoor.Mo Go.Proofs.YtdambnclbpipdaaGreatDoor.Sga Go.Proofs.YtdambnclbpipdaaGreatDoor.Wd Go.Proofs.YtdambnclbpipdaaGreatDoor.Wj
abbrev SPo := S43
abbrev kPo := k43
abbrev TPo : Nat := 43
theorem infoPo : (Tryz.prog.info? 43).map (fun i => (i.zero, i.size, i.bytes)) = some (some (.agg #[.int .i64 0, .slice none 0 0]), 2, 32) := by kernel_rfl
def postE (L : List En) (t : List UInt8) : List SPo := L.filterMap (fun e => if ords (wds e.b) t = [] then none else some ⟨e.id, ords (wds e.b) t⟩)
theorem post_snoc (L : List En) (e : En) (t : List UInt8) : postE (L ++ [e]) t = postE L t ++ (if ords (wds e.b) t = [] then [] else [⟨e.id, ords (wds e.b) t⟩]) := by
  unfold postE
  rw [List.filterMap_append]
  congr 1
  by_cases h : ords (wds e.b) t = []
  · rw [if_pos h]; simp [h]
  · rw [if_neg h]; simp [h]
theorem post_len (L : List En) (t : List UInt8) : (postE L t).length ≤ L.length := List.length_filterMap_le _ _
theorem own_I {w : World} {base : Nat} {e : TypeId} {v : Value} {xs : List Int} (h : w.ownsRow base e 1 v xs.length (nums .i64 xs)) : KI.R e w base (fun b => base ≤ b) v xs :=
  Kd.R_of_own (enc := Value.int .i64) (h1 := fun _ => rfl) h (fun k hk => own_base h k hk)
theorem post_take {L : List En} {i : Nat} {x : En} (hx : L[i]? = some x) (t : List UInt8) : postE (L.take (i + 1)) t = postE (L.take i) t ++ (if ords (wds x.b) t = [] then [] else [⟨x.id, ords (wds x.b) t⟩]) := by
  obtain ⟨hl, rfl⟩ := List.getElem?_eq_some_iff.1 hx
  rw [List.take_succ_eq_append_getElem hl, post_snoc]
theorem post_skip {L : List En} {i : Nat} {x : En} {t : List UInt8} {o : List Int} (hx : L[i]? = some x) (ho : o = ords (wds x.b) t) (h0 : o.length = 0) : postE (L.take (i + 1)) t = postE (L.take i) t := by
  rw [post_take hx, if_pos (by rw [← ho]; exact List.eq_nil_of_length_eq_zero h0), List.append_nil]
theorem post_add {L : List En} {i : Nat} {x : En} {t : List UInt8} {o : List Int} (hx : L[i]? = some x) (ho : o = ords (wds x.b) t) (h0 : o.length ≠ 0) : postE (L.take (i + 1)) t = postE (L.take i) t ++ [⟨x.id, o⟩] := by
  rw [post_take hx, ← ho, if_neg (fun e => h0 (by rw [e]; rfl))]
section
variable {g base : Nat} {S : Ix} {ok okp : Nat → Prop}
set_option maxRecDepth 100000 in
set_option maxHeartbeats 4000000 in
theorem PostingsP (w : World) (h : IsIdx g base S ok okp w) (hnum : S.num ≤ 1000000000000000000) (hb : ∀ e ∈ S.L, (wds e.b).length ≤ 13000000) (t : ByteArray) (ht : t.size ≤ maxLen) :
    Calls Tryz.prog 22 #[at0 g, .string t] w fun e w' => ∃ v, e = .returned v ∧ kPo.R TPo w' w.heap.size (fun _ => True) v (postE S.L t.data.toList) ∧ Below w.heap.size w w' := by
  obtain ⟨bm, dm, rv, Db, Dd, RS, ad, h⟩ := h
  have HX := Aside0.mk h
  have HL := Aside0.mk (liveP w h (nwX h hnum))
  have HS := Aside0.mk h.good.srt
  have HSM := Aside0.mk h.small
  have HBD := Aside0.mk hb
  have HKT := Aside0.mk (Go.WideMaps.keyOf_string_mk (P := Tryz.prog) (k := 9) Tryz.underlying9 ht)
  have hzd : ∀ W, (zeroValue 94).run Tryz.prog W = .ok np W := fun W => by kernel_rfl
  have hzs : ∀ W, (zeroValue 33).run Tryz.prog W = .ok nilS W := fun W => by kernel_rfl
  obtain ⟨ts, hts⟩ : ∃ ts, ts = t.data.toList := ⟨_, rfl⟩
  rw [← hts] at HKT ⊢
  obtain ⟨N, hN⟩ : ∃ N, N = S.L.length := ⟨_, rfl⟩
  have HN := Aside0.mk hN
  clear h hnum hb ht hts hN
  go_enter Tryz.func22, Tryz.ntmps22
  go_upto_block 0 with (first
    | (go_at_call 54; refine HL.out.mono ?_; rintro e w1 ⟨D, rfl, p1, p2, p3⟩; have P1 := Aside0.mk p1; have P2 := Aside0.mk p2; have P3 := Aside0.mk p3; clear p1 p2 p3)
    | (go_at_call 58; refine (KeysI _ _).mono ?_; rintro e w2 ⟨rfl, rfl⟩)
    | (go_at_call 57; refine (SortedI w.heap.size D w1 P1.out (by rw [live_size P2.out HS.out P1.out]; have := HSM.out; omega)).mono ?_; rintro e w3 ⟨v, ss, rfl, q1, q2, q3⟩; rw [sort_ids HS.out (live_keys P2.out HS.out P1.out) q1] at q2; obtain ⟨A3, c3, e3, hc3, hC3⟩ := Kd.R_reads q2; rw [List.length_map, ← HN.out] at e3 hC3; subst e3; have HC3 := Aside0.mk hC3; have Q3 := Aside0.mk q3; have M3 := Aside0.mk (P1.out.below q3); have B3 := Aside0.mk (below_then P3.out P3.out.size q3); clear q1 q2 q3 hc3 hC3))
  obtain ⟨mb, hmb⟩ : ∃ mb, mb = w.heap.size := ⟨_, rfl⟩
  rw [← hmb]
  rw [← hmb] at M3
  clear P1 hmb
  go_wp2
  go_loopw [5, 16] (fun v5 v wr => ∃ i : Nat, v = .int .i64 i ∧ i ≤ N ∧ Aside0 (Below w3.heap.size w3 wr) ∧ Aside0 (kPo.R TPo wr w3.heap.size (fun _ => True) v5 (postE (S.L.take i) ts))) (fun _ v _ => N - (intOf v).toNat)
  case atStart => exact ⟨0, rfl, Nat.zero_le _, ⟨Below.refl _ _⟩, ⟨by rw [List.take_zero]; exact Kd.R_nil _ _ _ _ _⟩⟩
  case round =>
    obtain ⟨i, rfl, hi, HB, HR⟩ := hrel
    obtain ⟨Ao, co, eo, -, -⟩ := Kd.R_reads HR.out
    obtain ⟨NO, hNO⟩ : ∃ NO, NO = (postE (S.L.take i) ts).length := ⟨_, rfl⟩
    rw [← hNO] at eo
    have HNO := Aside0.mk hNO
    clear hNO
    subst eo
    by_cases hlt : i < N
    · have hd : decide ((i : Int) < (N : Int)) = true := decide_eq_true (by omega)
      have hd2 : decide (i < N) = true := decide_eq_true hlt
      have hil : i < S.L.length := by have := HN.out; omega
      obtain ⟨x, hx⟩ : ∃ x, S.L[i]? = some x := ⟨S.L[i], List.getElem?_eq_getElem hil⟩
      have hxm := List.mem_of_getElem? hx
      obtain ⟨a3, rfl, z0⟩ := Kd.at_int HC3.out (i : Int) (by omega) (by omega)
      have hrd : rd (S.L.map (·.id)) (i : Int) = x.id := by unfold rd; simp [List.getD_eq_getElem?_getD, hx]
      rw [hrd] at z0
      simp only [Int.toNat_natCast] at z0
      have z0 := pw_cell_below HB.out z0
      have hw : wrap64 ((i : Int) + 1) = (i : Int) + 1 := by have := HSM.out; unfold wrap64; omega
      have hids := HX.out.ids x hxm
      have hid : (Lit.int .i64 x.id).wf = true := WalkArith.wf_i64 (by omega)
      have HK := Aside0.mk (keyOf_int_mk Tryz.underlying3 hid)
      have HV := Aside0.mk (show vlD np D (ik x.id) = at0 (ad x.id) by rw [P2.out.1, srt_at HS.out hxm]; rfl)
      obtain ⟨bv, wv, ab, k1, k2, k3, k4, k5, D9, okk, k6, k7, k8, k9, k10, k11, k12⟩ := ((HX.out.docs x hxm).below B3.out).below HB.out
      obtain ⟨o, ho⟩ : ∃ o, o = ords (wds x.b) ts := ⟨_, rfl⟩
      have hrow := k9 ts
      rw [← ho] at hrow
      obtain ⟨A9, c9, e9, hc9, hC9⟩ := Kd.R_reads hrow
      obtain ⟨NI, hNI⟩ : ∃ NI, NI = o.length := ⟨_, rfl⟩
      rw [← hNI] at e9 hC9
      have HNI := Aside0.mk hNI
      have hol : NI ≤ 13000000 := by rw [hNI, ho]; exact Nat.le_trans (ords_len _ _) (HBD.out x hxm)
      have cd := blk_cell k1 3
      simp only [List.getElem?_toArray, List.getElem?_cons_zero, List.getElem?_cons_succ] at cd
      have M9 := Aside0.mk k6
      have E9 := Aside0.mk e9
      have C9 := Aside0.mk hC9
      have HO := Aside0.mk ho
      have HXI := Aside0.mk hx
      clear hx hxm hrd hil k1 k2 k3 k4 k5 k6 k7 k8 k9 k10 k11 k12 hrow e9 hC9 ho hid hids hNI
      by_cases hz : NI = 0
      · subst hz
        go_wp2_with (first
          | (at_lookup; refine wp_look rfl _ _ 89 rfl _ _ keyI Tryz.underlying89 np (hzd _) mb D rfl (M3.out.below HB.out) _ _ rfl HK.out ?_; rw [HV.out])
          | (at_lookup; refine wp_look rfl _ _ 101 rfl _ _ keyS Tryz.underlying101 nilS (hzs _) ab D9 rfl M9.out _ _ rfl HKT.out ?_; rw [E9.out])
          | go_in)
        exact ⟨⟨i + 1, by go_num, by omega, HB, ⟨by rw [post_skip HXI.out HO.out HNI.out.symm]; exact HR.out⟩⟩, less_ hw hlt⟩
      · have hp : decide ((0 : Int) < (NI : Int)) = true := decide_eq_true (by omega)
        have hp2 : decide (0 < NI) = true := decide_eq_true (by omega)
        have HCl := Aside0.mk (Clint.clone wr A9 NI c9 o (rdint C9.out) (by omega))
        go_wp2_with (first
          | (at_lookup; refine wp_look rfl _ _ 89 rfl _ _ keyI Tryz.underlying89 np (hzd _) mb D rfl (M3.out.below HB.out) _ _ rfl HK.out ?_; rw [HV.out])
          | (at_lookup; refine wp_look rfl _ _ 101 rfl _ _ keyS Tryz.underlying101 nilS (hzs _) ab D9 rfl M9.out _ _ rfl HKT.out ?_; rw [E9.out])
          | (go_at_call 62; refine HCl.out.mono ?_; rintro e w10 ⟨⟨v10, rfl, p1, p2⟩⟩; obtain ⟨A10, c10, e10⟩ := Kd.R_slice (own_I p1); rw [← HNI.out] at e10; subst e10; have P10 := Aside0.mk (own_I p1); have B10 := Aside0.mk p2; clear p1 p2)
          | (at_builtin; go_must (refine Kd.R_append kPo (w0 := w3) w3.heap.size rfl (.tmp 31) (.tmp 36) 39 TPo (.agg #[.int .i64 0, .slice none 0 0]) 32 rfl Tryz.underlying39 infoPo rfl (by decide) (by decide) (.slice Ao NO co) (postE (S.L.take i) ts) (⟨x.id, o⟩ : SPo) [.int .i64 x.id, .slice A10 NI c10] (fun _ => True) (fun k => wr.heap.size ≤ k) rfl rfl (k43_mkM w10 w3.heap.size _ ⟨x.id, o⟩ (Kd.R_lower P10.out HB.out.size)) (fun k hk => ⟨trivial, fun e => by obtain ⟨inner, ho⟩ := Kd.R_own HR.out; have := own_lt ho k e.symm; omega⟩) (fun _ _ => trivial) (Kd.R_below HR.out B10.out) (below_then HB.out HB.out.size B10.out) (Nat.le_trans HB.out.size B10.out.size) (by have := HNO.out; have h2 := post_len (S.L.take i) ts; rw [List.length_take] at h2; have := HSM.out; omega) ?_); intro v11 w11 r1 r2 r3 r4; have R11 := Aside0.mk r1; have G11 := Aside0.mk r2; clear r1 r2 r3 r4)
          | go_in)
        exact ⟨⟨i + 1, by go_num, by omega, G11, ⟨by rw [post_add HXI.out HO.out (by rw [← HNI.out]; exact hz)]; exact R11.out⟩⟩, less_ hw hlt⟩
    · have hd : decide ((i : Int) < (N : Int)) = false := decide_eq_false (by omega)
      have hd2 : decide (i < N) = false := decide_eq_false hlt
      have HFIN := Aside0.mk (show kPo.R TPo wr w.heap.size (fun _ => True) (.slice Ao NO co) (postE S.L ts) from by
        have h1 := HR.out
        rw [List.take_of_length_le (by have := HN.out; omega)] at h1
        exact Kd.R_lower h1 B3.out.size)
      go_wp2
      go_ret
      exact ⟨_, rfl, HFIN.out, below_then B3.out B3.out.size HB.out⟩
end
end Go.Proofs.YtdambnclbpipdaaGreatDoor.Ms
namespace Go.Proofs.YtdambnclbpipdaaGreatDoor.Mt
set_option linter.unusedVariables false
set_option linter.unusedSimpArgs false
open Go.RowKit Go.Maps Go.Sort Go.Shelf Go.Proofs Go.Proofs.YtdambnclbpipdaaGreatDoorW.PrintWords Go.Proofs.YtdambnclbpipdaaGreatDoor.Hp Go.Proofs.YtdambnclbpipdaaGreatDoor.Fm Go.Proofs.YtdambnclbpipdaaGreatDoor.X Go.Proofs.YtdambnclbpipdaaGreatDoor.Va Go.Proofs.YtdambnclbpipdaaGreatDoor.Ma Go.Proofs.YtdambnclbpipdaaGreatDoor.Mb Go.Proofs.YtdambnclbpipdaaGreatDoor.Mc Go.Proofs.YtdambnclbpipdaaGreatDoor.Me Go.Proofs.YtdambnclbpipdaaGreatDoor.Mg Go.Proofs.YtdambnclbpipdaaGreatDoor.Mf Go.Proofs.YtdambnclbpipdaaGreatDoor.Mi Go.Proofs.YtdambnclbpipdaaGreatDoor.Mfl Go.Proofs.YtdambnclbpipdaaGreatDoor.Mm Go.Proofs.YtdambnclbpipdaaGreatDoor.Wd
abbrev KSt : Kd ByteArray := Kd.string
def mkB (s : List UInt8) : ByteArray := ⟨s.toArray⟩
theorem sortsS (m : Nat) : AnyZ.SortsIn Tryz.prog sortedS_ren Fence.wide m :=
  ⟨fun blk off cap ss W hH hblk hsz => callsIn_wide.2 (AnyM.slices_Sort_string sortS blk off cap ss W hH hblk hsz),
   fun p cap W => callsIn_wide.2 (AnyM.slices_Sort_string_none sortS p cap W)⟩
theorem KeysS (mb : Option Nat) (W : World) : Calls Tryz.prog 61 #[.map mb] W fun e w' => e = .returned (.func (.func 84) #[] #[.pointer (some ⟨W.heap.size, 0, none⟩)]) ∧ w' = W.alloc (.cells #[.map mb] 111) :=
  (callsIn_wide (n := 5)).1 (AnyZ.keys_in keysS Fence.wide 5 trivial rfl mb W)
theorem SortedS (b : Nat) (D : DataW Value) (w : World) (hM : MapV w TSt b D) (hs : size D ≤ 8000000000000) :
    Calls Tryz.prog 60 #[.func (.func 84) #[] #[.pointer (some ⟨w.heap.size, 0, none⟩)]] (w.alloc (.cells #[.map (some b)] 111)) fun e w' => ∃ (v : Value) (ss : List (List UInt8)), e = .returned v ∧ ss.Perm (strKeys D) ∧
      KSt.R TSt w' w.heap.size (fun _ => True) v ((ss.mergeSort (fun x y => decide (x ≤ y))).map mkB) ∧ Below w.heap.size w w' := by
  have hbl := hM.lt
  have hseq : SeqGives Fence.wide 2 Tryz.prog 84 #[.pointer (some ⟨w.heap.size, 0, none⟩)] encStr (fun ss => ss.Perm (strKeys D)) (Maps.size D) (w.alloc (.cells #[.map (some b)] 111)) :=
    AnyZ.keys_gives (ρ := keysS_ren) { keysS with } Fence.wide _ trivial rfl (by omega) w.heap.size b _ D _ (by simp) (by simp) (hM.below (below_alloc (Below.refl _ _) _))
  have cS := AnyZ.sorted_in sortedS Fence.wide 5 trivial trivial trivial trivial rfl (by omega) (sortsS _) (enters_of Tryz.func83 (by kernel_rfl) rfl) 84 #[.pointer (some ⟨w.heap.size, 0, none⟩)] trivial (enters_of Tryz.func84 (by kernel_rfl) rfl) _ _ (by unfold maxLen; omega) (by omega) _ hseq
  change CallsIn _ _ Tryz.prog 60 _ _ _ at cS
  refine ((callsIn_wide (n := 5)).1 cS).mono ?_
  rintro e w' ⟨v, ss, rfl, hS, hrow, hnil, hb⟩
  have hb2 : Below w.heap.size w w' := below_then (below_alloc (Below.refl _ _) _) (by simp) hb
  refine ⟨v, ss, rfl, hS, ?_, hb2⟩
  have h1 : w'.ownsRow (w.alloc (.cells #[.map (some b)] 111)).heap.size TSt 1 v ((ss.mergeSort (fun x y => decide (x ≤ y))).map mkB).length (encs Value.string ((ss.mergeSort (fun x y => decide (x ≤ y))).map mkB)) := by
    rw [List.length_map, List.length_mergeSort]
    have e : encs Value.string ((ss.mergeSort (fun x y => decide (x ≤ y))).map mkB) = (ss.mergeSort (fun x y => decide (x ≤ y))).map encStr := by unfold encs; rw [List.map_map]; rfl
    rw [e]
    exact hrow
  exact Kd.R_lower (Kd.R_of_own (enc := Value.string) (h1 := fun _ => rfl) h1 (fun k hk => trivial)) (by simp)
def IsTerms (L : List En) (ss : List (List UInt8)) : Prop := ss.Pairwise (fun a b => a ≤ b ∧ a ≠ b) ∧ ∀ s, s ∈ ss ↔ ∃ e ∈ L, ords (wds e.b) s ≠ []
def TQ (Q : En → Prop) (X : List UInt8 → Prop) (L : List En) (D : DataW Value) : Prop := (∀ s, has D (.string s) = true ↔ (∃ e ∈ L, Q e ∧ ords (wds e.b) s ≠ []) ∨ X s) ∧ ∀ s, ∃ c, vlD (.int .i64 0) D (.string s) = .int .i64 c
theorem TQ.start (L : List En) (Q : En → Prop) (h : ∀ e ∈ L, ¬ Q e) : TQ Q (fun _ => False) L (.map []) :=
  ⟨fun s => ⟨fun h => (no_has h).elim, fun h2 => by
    rcases h2 with ⟨e, he, hq, _⟩ | h2
    · exact absurd hq (h e he)
    · exact h2.elim⟩, fun s => ⟨0, rfl⟩⟩
theorem TQ.congr {Q Q' : En → Prop} {X X' : List UInt8 → Prop} {L : List En} {D : DataW Value} (h : TQ Q X L D) (h2 : ∀ s, ((∃ e ∈ L, Q e ∧ ords (wds e.b) s ≠ []) ∨ X s) ↔ ((∃ e ∈ L, Q' e ∧ ords (wds e.b) s ≠ []) ∨ X' s)) : TQ Q' X' L D := ⟨fun s => (h.1 s).trans (h2 s), h.2⟩
theorem TQ.put {Q : En → Prop} {X X' : List UInt8 → Prop} {L : List En} {D : DataW Value} (h : TQ Q X L D) (hD : IsMap D) (s0 : List UInt8) (c : Int) (hX : ∀ s, X' s ↔ X s ∨ s = s0) : TQ Q X' L (D.put (.string s0) (.held (.int .i64 c))) := by
  refine ⟨fun s => ?_, fun s => ?_⟩
  · by_cases e : s = s0
    · subst e
      rw [has_put_same hD (skl _)]
      exact ⟨fun _ => .inr ((hX s).2 (.inr rfl)), fun _ => rfl⟩
    · rw [has_put_other (str_ne e), h.1, hX]
      simp [e]
  · by_cases e : s = s0
    · subst e
      exact ⟨c, vl_put hD (skl _)⟩
    · obtain ⟨c', h'⟩ := h.2 s
      exact ⟨c', by rw [vl_put_ne (str_ne e)]; exact h'⟩
theorem terms_end {L : List En} {w : World} {b : Nat} {D : DataW Value} {ss : List (List UInt8)} {Q : En → Prop} (hM : MapV w TSt b D) (h : TQ Q (fun _ => False) L D) (hQ : ∀ e ∈ L, Q e) (hp : ss.Perm (strKeys D)) : IsTerms L (ss.mergeSort (fun x y => decide (x ≤ y))) := by
  obtain ⟨es, hD, hpw⟩ := hM.tidy keyS
  subst hD
  have hkey : ∀ p ∈ es, ∃ x, p.1 = .string x := by
    intro p hp
    obtain ⟨es', hD', hko⟩ := World.ownsMap.keysOf hM
    injection hD' with hD'
    subst hD'
    obtain ⟨v, hv⟩ := hko p hp
    obtain ⟨x, _, hx, _⟩ := Maps.keyOf_str Tryz.underlying9 hv
    exact ⟨x, hx⟩
  have hnd : (strKeys (.map es : DataW Value)).Nodup := by
    show (es.map fun p => strOf p.1).Nodup
    rw [List.nodup_iff_pairwise_ne, List.pairwise_map]
    refine hpw.imp_of_mem fun {p q} hp' hq' hne e => hne ?_
    obtain ⟨a, ha⟩ := hkey p hp'
    obtain ⟨b, hb⟩ := hkey q hq'
    rw [ha, hb] at e ⊢
    exact congrArg _ e
  have hmem : ∀ s, s ∈ strKeys (.map es : DataW Value) ↔ has (.map es : DataW Value) (.string s) = true := by
    intro s
    rw [has_eq, List.any_eq_true]
    show s ∈ es.map (fun p => strOf p.1) ↔ _
    rw [List.mem_map]
    constructor
    · rintro ⟨p, hp', rfl⟩
      obtain ⟨a, ha⟩ := hkey p hp'
      exact ⟨p, hp', by rw [ha]; simp [Lit.sameKey, strOf]⟩
    · rintro ⟨p, hp', hs⟩
      obtain ⟨a, ha⟩ := hkey p hp'
      rw [ha] at hs
      exact ⟨p, hp', by rw [ha]; simpa [Lit.sameKey, strOf] using hs⟩
  have hms := List.mergeSort_perm ss (fun x y => decide (x ≤ y))
  refine ⟨?_, fun s => ?_⟩
  · have h1 : (ss.mergeSort (fun x y => decide (x ≤ y))).Pairwise (fun a b => decide (a ≤ b) = true) :=
      List.pairwise_mergeSort (fun a b c h1 h2 => by simp only [decide_eq_true_eq] at *; exact List.le_trans h1 h2) (fun a b => by simp only [Bool.or_eq_true, decide_eq_true_eq]; exact List.le_total a b) ss
    have h2 : (ss.mergeSort (fun x y => decide (x ≤ y))).Pairwise (fun a b => a ≠ b) := List.nodup_iff_pairwise_ne.1 ((hms.trans hp).nodup_iff.2 hnd)
    exact (h1.and h2).imp (fun h => ⟨by simpa using h.1, h.2⟩)
  · rw [(hms.trans hp).mem_iff, hmem, h.1]
    constructor
    · rintro (⟨e, he, -, h3⟩ | h3)
      · exact ⟨e, he, h3⟩
      · exact h3.elim
    · rintro ⟨e, he, h3⟩
      exact .inl ⟨e, he, hQ e he, h3⟩
end Go.Proofs.YtdambnclbpipdaaGreatDoor.Mt
namespace Go.Proofs.YtdambnclbpipdaaGreatDoor.Mu
set_option linter.unusedVariables false
set_option linter.unusedSimpArgs false
open Go.RowKit Go.Maps Go.Proofs.YtdambnclbpipdaaGreatDoorW.PrintWords Go.Proofs.YtdambnclbpipdaaGreatDoor.Hp Go.Proofs.YtdambnclbpipdaaGreatDoor.Fm Go.Proofs.YtdambnclbpipdaaGreatDoor.X Go.Proofs.YtdambnclbpipdaaGreatDoor.Va Go.Proofs.YtdambnclbpipdaaGreatDoor.Ma Go.Proofs.YtdambnclbpipdaaGreatDoor.Mb Go.Proofs.YtdambnclbpipdaaGreatDoor.Mc Go.Proofs.YtdambnclbpipdaaGreatDoor.Me Go.Proofs.YtdambnclbpipdaaGreatDoor.Mg Go.Proofs.YtdambnclbpipdaaGreatDoor.Mf Go.Proofs.YtdambnclbpipdaaGreatDoor.Mh Go.Proofs.YtdambnclbpipdaaGreatDoor.Mi Go.Proofs.YtdambnclbpipdaaGreatDoor.Mm Go.Proofs.YtdambnclbpipdaaGreatDoor.Mt Go.Proofs.YtdambnclbpipdaaGreatDoor.Wd
def TIn (w wr : World) (am : Nat) (L : List En) (Q : En → Prop) (X : List UInt8 → Prop) (Da : DataW Value) : Prop := Below w.heap.size w wr ∧ MapV wr TSt am Da ∧ TQ Q X L Da
theorem tin_below {w wr w' : World} {am : Nat} {L : List En} {Q : En → Prop} {X : List UInt8 → Prop} {Da : DataW Value} (h : TIn w wr am L Q X Da) (hb : Below wr.heap.size wr w') : TIn w w' am L Q X Da := ⟨below_then h.1 h.1.size hb, h.2.1.below hb, h.2.2⟩
theorem tin_next {w wr w' : World} {am b r cnt : Nat} {k : TypeId} {L : List En} {Q : En → Prop} {X : List UInt8 → Prop} {Da D : DataW Value} {left : Lit → Bool} (h : TIn w wr am L Q X Da) (hR : Rng wr k b r D left cnt) (hr : w.heap.size ≤ r) (hg : wr.grownBy w' (some r)) : TIn w w' am L Q X Da :=
  ⟨h.1.grown hg h.1.size (fun j hj => by injection hj with hj; omega), h.2.1.move (hg.block am h.2.1.lt (fun e => hR.ne_map h.2.1 (by injection e))), h.2.2⟩
theorem Maps.keyOf_string_inv2 {key : Value} {kl : Lit} (h : keyOf Tryz.prog TSt key = some kl) : ∃ s : ByteArray, key = .string s := by
  obtain ⟨x, hx, _⟩ := Go.Maps.keyOf_str Tryz.underlying9 h
  exact ⟨_, hx⟩
theorem terms_start {w w4 : World} {am : Nat} {L : List En} {Q : En → Prop} {Da Dat : DataW Value} {l : List SW} (h : TIn w w4 am L Q (fun _ => False) Da) (hk : ∀ s, has Dat (.string s) = true ↔ ords l s ≠ []) : TIn w w4 am L Q (fun s => ords l s ≠ [] ∧ has Dat (.string s) = false) Da := by
  refine ⟨h.1, h.2.1, h.2.2.congr fun s => ?_⟩
  constructor
  · rintro (h1 | h1)
    · exact .inl h1
    · exact h1.elim
  · rintro (h1 | ⟨h1, h2⟩)
    · exact .inl h1
    · rw [(hk s).2 h1] at h2; cases h2
theorem terms_close {w wr : World} {am : Nat} {L : List En} {left left2 : Lit → Bool} {Da : DataW Value} {e : En} {x : Int} (hs : Srt L) (he : e ∈ L) (hx : e.id = x) (h : TIn w wr am L (fun e => left (ik e.id) = false) (fun s => ords (wds e.b) s ≠ [] ∧ left2 (.string s) = false) Da) (hl : ∀ kl, left2 kl = false) :
    TIn w wr am L (fun e => (left (ik e.id) && !(ik e.id).sameKey (ik x)) = false) (fun _ => False) Da := by
  refine ⟨h.1, h.2.1, h.2.2.congr fun s => ?_⟩
  constructor
  · rintro (⟨e', h1, h2, h3⟩ | ⟨h1, -⟩)
    · exact .inl ⟨e', h1, by rw [show left (ik e'.id) = false from h2]; rfl, h3⟩
    · exact .inl ⟨e, he, by rw [hx]; simp [Lit.sameKey], h1⟩
  · rintro (⟨e', h1, h2, h3⟩ | h1)
    · by_cases e1 : e'.id = x
      · have e2 : e' = e := by
          have a1 := srt_at hs h1
          have a2 := srt_at hs he
          rw [e1, ← hx] at a1
          exact Option.some.inj (a1.symm.trans a2)
        subst e2
        exact .inr ⟨h3, hl _⟩
      · rw [sameKey_ne (ik_ne e1)] at h2
        exact .inl ⟨e', h1, by simpa using h2, h3⟩
    · exact h1.elim
theorem terms_rng {wi w5 : World} {b r cnt b2 r2 cnt2 : Nat} {k k2 : TypeId} {D D2 : DataW Value} {left left2 : Lit → Bool} (h : Rng wi k b r D left cnt) (h2 : Rng wi k2 b2 r2 D2 left2 cnt2) (hg : wi.grownBy w5 (some r2)) (hne : r ≠ r2) : Rng w5 k b r D left cnt :=
  h.move (hg.block b h.lt.1 (fun e => h2.ne_map h.map (by injection e))) (hg.block r h.lt.2 (fun e => hne (by injection e)))
theorem terms_keep {w5 w6 : World} {b r cnt am : Nat} {k : TypeId} {D D2 : DataW Value} {left : Lit → Bool} (h : Rng w5 k b r D left cnt) (hg : w5.grownBy w6 (some am)) (hM : MapV w5 TSt am D2) (hne : b ≠ am) : Rng w6 k b r D left cnt :=
  h.move (hg.block b h.lt.1 (fun e => hne (by injection e))) (hg.block r h.lt.2 (fun e => h.ne_map hM (by injection e with e; exact e.symm)))
theorem terms_lay {w w5 w6 : World} {am : Nat} {L : List En} {Q : En → Prop} {D2 : DataW Value} {left2 : Lit → Bool} {sl : List UInt8} {c : Int} {l : List SW} (h : TIn w w5 am L Q (fun s => ords l s ≠ [] ∧ left2 (.string s) = false) D2) (ho : ords l sl ≠ []) (hM : MapV w6 TSt am (D2.put (.string sl) (.held (.int .i64 c)))) (hg : w5.grownBy w6 (some am)) (ha : w.heap.size ≤ am) :
    TIn w w6 am L Q (fun s => ords l s ≠ [] ∧ (left2 (.string s) && !(Lit.string s).sameKey (.string sl)) = false) (D2.put (.string sl) (.held (.int .i64 c))) := by
  refine ⟨h.1.grown hg h.1.size (fun j hj => by injection hj with hj; omega), hM, h.2.2.put (h.2.1.tidy keyS).isMap sl c fun s => ?_⟩
  by_cases e : s = sl
  · subst e
    simp [ho, Lit.sameKey]
  · have : (Lit.string s).sameKey (.string sl) = false := sameKey_ne (str_ne e)
    simp [e, this]
theorem terms_size {D : DataW Value} (hT : Tidy D) (sl : List UInt8) (v : Value) : size (D.put (.string sl) (.held v)) ≤ size D + 1 := by
  rw [size_put hT]
  split <;> omega
section
variable {g base : Nat} {S : Ix} {ok okp : Nat → Prop}
set_option maxRecDepth 100000 in
set_option maxHeartbeats 4000000 in
theorem TermsP (w : World) (h : IsIdx g base S ok okp w) (hnum : S.num ≤ 1000000000000000000) (hb : ∀ e ∈ S.L, (wds e.b).length ≤ 13000000) :
    Calls Tryz.prog 21 #[at0 g] w fun e w' => ∃ v ss, e = .returned v ∧ IsTerms S.L ss ∧ KSt.R TSt w' w.heap.size (fun _ => True) v (ss.map mkB) ∧ Below w.heap.size w w' := by
  have hmm := @run_makeMap Tryz.prog
  obtain ⟨bm, dm, rv, Db, Dd, RS, ad, h⟩ := h
  have HX := Aside0.mk h
  have b0 := below_alloc (Below.refl w.heap.size w) (.map #[] 0)
  have B0 := Aside0.mk b0
  have HL := Aside0.mk (liveP (w.alloc (.map #[] 0)) (h.step (fun k _ hlt => b0.block k hlt)) (nwX h hnum))
  have HS := Aside0.mk h.good.srt
  have HSM := Aside0.mk h.small
  have HBD := Aside0.mk hb
  have MA := Aside0.mk (MapV.new w TSt)
  have hzi : ∀ W, (zeroValue 3).run Tryz.prog W = .ok (.int .i64 0) W := fun W => by kernel_rfl
  obtain ⟨am, ham⟩ : ∃ am, am = w.heap.size := ⟨_, rfl⟩
  obtain ⟨lb, hlb⟩ : ∃ lb, lb = (w.alloc (.map #[] 0)).heap.size := ⟨_, rfl⟩
  have HAM := Aside0.mk ham
  have HLB := Aside0.mk (show lb = am + 1 by rw [hlb, ham]; simp)
  rw [← ham] at MA
  rw [← hlb] at HL
  have HLS := Aside0.mk hlb
  clear h hnum hb b0 hlb
  go_enter Tryz.func21, Tryz.ntmps21
  go_wp2_with (first
    | (go_at_call 54; refine HL.out.mono ?_; rintro e w1 ⟨D, rfl, p1, p2, p3⟩; have P1 := Aside0.mk p1; have P2 := Aside0.mk p2; have P3 := Aside0.mk p3; clear p1 p2 p3)
    | (at_range; refine wp_range rfl _ 89 rfl _ _ keyI Tryz.underlying89 lb D rfl P1.out ?_; intro w2 q1 q2; have Q1 := Aside0.mk q1; have Q2 := Aside0.mk (lay_below q2); clear q1 q2) | go_in)
  rw [← ham]
  obtain ⟨it, hit⟩ : ∃ it, it = w1.heap.size := ⟨_, rfl⟩
  rw [← hit]
  rw [← hit] at Q1
  have P3b := Aside0.mk (show Below (w.alloc (.map #[] 0)).heap.size (w.alloc (.map #[] 0)) w1 by have p3 := P3.out; rw [HLS.out] at p3; exact p3)
  have B1 := Aside0.mk (below_then B0.out B0.out.size P3b.out)
  have HIT := Aside0.mk (show w.heap.size ≤ it by rw [hit]; exact B1.out.size)
  have T0 := Aside0.mk (show TIn w w2 am S.L (fun e => has D (ik e.id) = false) (fun _ => False) (.map []) from ⟨below_then B1.out B1.out.size Q2.out, ((MA.out.below P3b.out).below Q2.out), TQ.start _ _ (fun e he hf => by rw [(P2.out.has e.id).2 ⟨e, srt_at HS.out he⟩] at hf; cases hf)⟩)
  have HDS := Aside0.mk (live_size P2.out HS.out P1.out)
  clear ham hit MA P3
  go_frame
  go_loopw [5] (fun _ wr => ∃ (left : Lit → Bool) (cnt : Nat) (Da : DataW Value), Aside0 (Rng wr TI lb it D left cnt) ∧ Aside0 (TIn w wr am S.L (fun e => left (ik e.id) = false) (fun _ => False) Da) ∧ Aside0 (size Da + cnt * 13000000 ≤ 4000000000)) (fun _ wr => wr.rangeLeft lb it)
  case atStart => exact ⟨_, _, _, Q1, T0, ⟨by rw [HDS.out]; have := HSM.out; show 0 + _ ≤ _; omega⟩⟩
  case round =>
    obtain ⟨left, cnt, Da, HRG, HT, HZ⟩ := hrel
    clear Q1 Q2 T0
    go_wp2_with (first | (at_next; refine wp_next rfl _ rfl TI keyI (Value.int .i64) (fun key kl hk => (Maps.keyOf_int_inv Tryz.underlying3 hk).imp (fun x hx => hx.1)) np lb it D left cnt rfl HRG.out ?_ ?_) | go_in)
    · intro hl0
      have MF := Aside0.mk HT.out.2.1
      have HSZ := Aside0.mk (show size Da ≤ 8000000000000 by have := HZ.out; omega)
      have HTQ := Aside0.mk HT.out.2.2
      have HL0 := Aside0.mk hl0
      have HBW := Aside0.mk HT.out.1
      clear hl0 HT
      go_wp2_with (first
        | (go_at_call 61; refine (KeysS _ _).mono ?_; rintro e w5 ⟨rfl, rfl⟩)
        | (go_at_call 60; refine (SortedS am Da wr MF.out HSZ.out).mono ?_; rintro e w6 ⟨v, ss, rfl, q1, q2, q3⟩; have Q1 := Aside0.mk q1; have Q2 := Aside0.mk q2; have Q3 := Aside0.mk q3; clear q1 q2 q3))
      go_ret
      exact ⟨_, _, rfl, terms_end MF.out HTQ.out (fun e _ => HL0.out _) Q1.out, Kd.R_lower Q2.out HBW.out.size, below_then HBW.out HBW.out.size Q3.out⟩
    · intro x kl w3 cnt3 hkey hlk hhas hrg3 hlt3 hg3 hen
      obtain ⟨y, hy1, rfl, hyw⟩ := Maps.keyOf_int_inv Tryz.underlying3 hkey
      obtain rfl : x = y := by injection hy1
      obtain ⟨e, he⟩ := (P2.out.has x).1 hhas
      have hem := atE_mem he
      have hv : vlD np D (ik x) = at0 (ad e.id) := by rw [P2.out.1, he]; rfl
      rw [hv] at hen ⊢
      have t3 := tin_next HT.out HRG.out HIT.out hg3
      obtain ⟨bv, wv, ab, k1, k2, k3, k4, k5, Dat, okk, k6, k7, k8, k9, k10, k11, k12, k13⟩ := HX.out.docs e hem.1
      have cd := pw_cell_below t3.1 (Mo.blk_cell3 k1)
      have MT := Aside0.mk (k6.below t3.1)
      have HAB := Aside0.mk k6.lt
      have HK12 := Aside0.mk k12
      have HK13 := Aside0.mk (Nat.le_trans k13 (HBD.out e hem.1))
      have T3 := Aside0.mk t3
      have HRG3 := Aside0.mk hrg3
      have HLT3 := Aside0.mk hlt3
      have HEM := Aside0.mk hem
      have HLK := Aside0.mk hlk
      clear hkey hlk hhas hrg3 hlt3 hg3 hyw hy1 he hem hv t3 k1 k2 k3 k4 k5 k6 k7 k8 k9 k10 k11 k12 k13
      go_wp2_with (first
        | (at_range; refine wp_range rfl _ 101 rfl _ _ keyS Tryz.underlying101 ab Dat rfl MT.out ?_; intro w4 q1 q2; have Q1 := Aside0.mk q1; have Q2 := Aside0.mk (lay_below q2); clear q1 q2) | go_in)
      obtain ⟨it2, hit2⟩ : ∃ it2, it2 = w3.heap.size := ⟨_, rfl⟩
      rw [← hit2]
      rw [← hit2] at Q1
      have HNE := Aside0.mk (show it ≠ it2 by rw [hit2]; have := HRG3.out.lt.2; omega)
      have HIT2 := Aside0.mk (show w.heap.size ≤ it2 by rw [hit2]; exact T3.out.1.size)
      clear hit2
      go_frame
      have ST := Aside0.mk (terms_start (tin_below T3.out Q2.out) HK12.out)
      have SZ := Aside0.mk (show size Da + size Dat + cnt3 * 13000000 ≤ 4000000000 by have := HZ.out; have := HK13.out; have := HLT3.out; omega)
      have RL := Aside0.mk (HRG3.out.below Q2.out)
      go_loopw [6] (fun _ wi => ∃ (left2 : Lit → Bool) (cnt2 : Nat) (D2 : DataW Value), Aside0 (Rng wi TSt ab it2 Dat left2 cnt2) ∧ Aside0 (Rng wi TI lb it D (fun z => left z && !z.sameKey (ik x)) cnt3) ∧ Aside0 (TIn w wi am S.L (fun e => left (ik e.id) = false) (fun s => ords (wds e.b) s ≠ [] ∧ left2 (.string s) = false) D2) ∧ Aside0 (size D2 + cnt2 + cnt3 * 13000000 ≤ 4000000000)) (fun _ wi => wi.rangeLeft ab it2)
      case atStart => exact ⟨_, _, _, Q1, RL, ST, SZ⟩
      case round =>
        obtain ⟨left2, cnt2, D2, R2, RO, T2, Z2⟩ := hrel
        clear Q1 ST SZ RL
        go_wp2_with (first | (at_next; refine wp_next rfl _ rfl TSt keyS Value.string (fun key kl hk => Maps.keyOf_string_inv2 hk) nilS ab it2 Dat left2 cnt2 rfl R2.out ?_ ?_) | go_in)
        · intro hl2
          have HL2 := Aside0.mk hl2
          clear hl2
          go_wp2
          exact ⟨⟨_, cnt3, D2, RO, ⟨terms_close HS.out HEM.out.1 HEM.out.2 T2.out HL2.out⟩, ⟨by have := Z2.out; omega⟩⟩, rng_less RO.out HRG.out HLT3.out⟩
        · intro s kl2 w5 cnt5 hkey hlk hhas hrg5 hlt5 hg5 hen
          obtain ⟨sl, hs1, rfl, hs3⟩ := Go.Maps.keyOf_str Tryz.underlying9 hkey
          have hsv : s = ⟨sl.toArray⟩ := by injection hs1
          have t5 := tin_next T2.out R2.out HIT2.out hg5
          have ro5 := terms_rng RO.out R2.out hg5 HNE.out
          obtain ⟨c, hc⟩ := t5.2.2.2 sl
          have T5 := Aside0.mk t5
          have R5 := Aside0.mk hrg5
          have RO5 := Aside0.mk ro5
          have HC := Aside0.mk hc
          have HKY := Aside0.mk hkey
          have HHAS := Aside0.mk ((HK12.out sl).1 hhas)
          have HLT5 := Aside0.mk hlt5
          clear hkey hlk hhas hrg5 hlt5 hg5 t5 ro5 hc hs1 hs3 hsv
          go_wp2_with (first
            | (at_lookup; refine wp_look rfl _ _ 111 rfl _ _ keyS Tryz.underlying111 (.int .i64 0) (hzi _) am D2 rfl T5.out.2.1 _ _ rfl HKY.out ?_; rw [HC.out])
            | (at_mapUpdate; refine wp_store rfl _ _ _ 111 rfl TSt _ keyS Tryz.underlying111 am D2 rfl T5.out.2.1 (by have := Z2.out; unfold maxLen; omega) _ _ (.string sl) rfl rfl HKY.out ?_; intro w6 q1 q2; have Q1 := Aside0.mk q1; have Q2 := Aside0.mk q2; clear q1 q2; go_frame)
            | go_in)
          go_roundw
          case rel => exact ⟨_, cnt5, _, ⟨terms_keep R5.out Q2.out T5.out.2.1 (by have := HAB.out; have := HAM.out; omega)⟩, ⟨terms_keep RO5.out Q2.out T5.out.2.1 (by have := HLB.out; omega)⟩, ⟨terms_lay T5.out HHAS.out Q1.out Q2.out (by have := HAM.out; omega)⟩, ⟨by have h1 := Z2.out; have h2 := HLT5.out; have h3 := terms_size (T5.out.2.1.tidy keyS) sl (Value.int .i64 (wrap64 (c + 1))); omega⟩⟩
          case measure => exact rng_less (terms_keep R5.out Q2.out T5.out.2.1 (by have := HAB.out; have := HAM.out; omega)) R2.out HLT5.out
end
end Go.Proofs.YtdambnclbpipdaaGreatDoor.Mu
namespace Go.Proofs.YtdambnclbpipdaaGreatDoor.Mv
set_option linter.unusedVariables false
set_option linter.unusedSimpArgs false
open Go.Proofs.YtdambnclbpipdaaGreatDoor.Ux (Bytes)
open Go.RowKit Go.Maps Go.Proofs.YtdambnclbpipdaaGreatDoorW.PrintWords Go.Proofs.YtdambnclbpipdaaGreatDoor.Hp Go.Proofs.YtdambnclbpipdaaGreatDoor.Fm Go.Proofs.YtdambnclbpipdaaGreatDoor.X Go.Proofs.YtdambnclbpipdaaGreatDoor.Va Go.Proofs.YtdambnclbpipdaaGreatDoor.Ma Go.Proofs.YtdambnclbpipdaaGreatDoor.Mb Go.Proofs.YtdambnclbpipdaaGreatDoor.Mc Go.Proofs.YtdambnclbpipdaaGreatDoor.Md Go.Proofs.YtdambnclbpipdaaGreatDoor.Mi Go.Proofs.YtdambnclbpipdaaGreatDoor.Mj Go.Proofs.YtdambnclbpipdaaGreatDoor.Mk Go.Proofs.YtdambnclbpipdaaGreatDoor.Ml Go.Proofs.YtdambnclbpipdaaGreatDoor.Mn Go.Proofs.YtdambnclbpipdaaGreatDoor.Mp Go.Proofs.YtdambnclbpipdaaGreatDoor.Mq Go.Proofs.YtdambnclbpipdaaGreatDoor.Mr Go.Proofs.YtdambnclbpipdaaGreatDoor.Ms Go.Proofs.YtdambnclbpipdaaGreatDoor.Mt Go.Proofs.YtdambnclbpipdaaGreatDoor.Mu Go.Proofs.YtdambnclbpipdaaGreatDoor.Sga Go.Proofs.YtdambnclbpipdaaGreatDoor.Wd Go.Proofs.YtdambnclbpipdaaGreatDoor.Wj
def idxT (g base : Nat) (S : Ix) : Th :=
  ⟨fun ok w => ∃ o1 o2, IsIdx g base S o1 o2 w ∧ (∀ k, o1 k → ok k) ∧ ∀ k, o2 k → ok k,
   fun ⟨o1, o2, h, h1, h2⟩ hm => ⟨o1, o2, h.step (fun k hk hlt => hk.elim (fun hk => hm k (h1 k hk) hlt) (fun hk => hm k (h2 k hk) hlt)), h1, h2⟩,
   fun ⟨o1, o2, h, h1, h2⟩ => ⟨_, _, h.bound, fun k hk => ⟨h1 k hk.1, hk.2⟩, fun k hk => ⟨h2 k hk.1, hk.2⟩⟩⟩
theorem idx_lower {g base base' : Nat} {S : Ix} {ok okp : Nat → Prop} {w : World} (h : IsIdx g base S ok okp w) (hb : base' ≤ base) : IsIdx g base' S ok okp w := by
  obtain ⟨bm, dm, rv, Db, Dd, RS, ad, h⟩ := h
  refine ⟨bm, dm, rv, Db, Dd, RS, ad, { h with
    row := Kd.R_lower h.row hb
    lo := ⟨Nat.le_trans hb h.lo.1, Nat.le_trans hb h.lo.2.1, Nat.le_trans hb h.lo.2.2.1, fun r hr => Nat.le_trans hb (h.lo.2.2.2 r hr)⟩
    docs := fun e he => ?_ }⟩
  obtain ⟨bv, wv, ab, k1, k2, k3, k4, k5, k6⟩ := h.docs e he
  exact ⟨bv, wv, ab, k1, Nat.le_trans hb k2, k3, Kd.R_lower k4 hb, Kd.R_lower k5 hb, Mo.AtMap.lower k6 hb⟩
section
variable {w0 w w' : World} {L : List Th} {g : Nat} {S : Ix}
theorem sep_idx (h : Sep w0 L w) (i : Nat) (hi : L[i]? = some (idxT g w0.heap.size S)) : ∃ o1 o2, IsIdx g w0.heap.size S o1 o2 w ∧ ∀ (w' : World) (S' : Ix), StepX w g w0.heap.size S' o1 o2 w' → Sep w0 (L.set i (idxT g w0.heap.size S')) w' := by
  obtain ⟨ok, ⟨o1, o2, h1, h2, h3⟩, h4, h5⟩ := h.op i _ hi
  refine ⟨o1, o2, h1, fun w' S' ⟨a1, a2, k1, k2, k3, k4⟩ => h5 w' (idxT g w0.heap.size S') (fun k => a1 k ∨ a2 k) ⟨a1, a2, k1, fun k hk => .inl hk, fun k hk => .inr hk⟩ (fun k hk => ?_) (k4.mono (fun k _ hk => h2 k hk))⟩
  rcases hk with hk | hk
  · exact (k2 k hk).imp (h2 k) id
  · exact (k3 k hk).imp (h3 k) id
theorem NewIx (h : Sep w0 L w) (f : Int) (h1 : 1 ≤ f) (h2 : f ≤ 256) : Calls Tryz.prog 16 #[.int .i64 f] w fun e w' => ∃ g, e = .returned (.tuple #[at0 g, .int .i64 0]) ∧ Sep w0 (L ++ [idxT g w0.heap.size ⟨f, [], 0, 0, 0⟩]) w' := by
  refine (New w f h1 h2).mono ?_
  rintro e w' ⟨g, rfl, k1, k2, k3⟩
  have hs := h.below.size
  refine ⟨g, rfl, h.new (idxT g w0.heap.size ⟨f, [], 0, 0, 0⟩) (ok := fun k => w.heap.size ≤ k) ⟨_, _, idx_lower k2 hs, fun k hk => hk, fun k hk => hk.elim⟩ (fun b hb => hb) k3⟩
theorem AddIx (hG : G w0) (h : Sep w0 L w) (i : Nat) (hi : L[i]? = some (idxT g w0.heap.size S)) (hnum : S.num ≤ 1000000000000000000) (hruns : S.runs ≤ 7000000000000) (id : Int) (A : Option Addr) (n c : Nat) (b : List Int) (hC : KB.C w A n b) (hn : n = b.length) (hc : n ≤ c) (hB : Bytes b)
    (E : Int) (hE : addE S id b = E) (S1 : Ix) (hS1 : addX S id b = S1) :
    Calls Tryz.prog 17 #[at0 g, .int .i64 id, .slice A n c] w fun e w' => e = .returned (.int .i64 E) ∧ Sep w0 (L.set i (idxT g w0.heap.size S1)) w' := by
  obtain ⟨o1, o2, k1, k2⟩ := sep_idx h i hi
  exact (AddP w (hG.below h.below) k1 hnum hruns id A n c b hC hn hc hB E hE S1 hS1).mono fun e w' ⟨q1, q2⟩ => ⟨q1, k2 w' S1 q2⟩
theorem DeleteIx (h : Sep w0 L w) (i : Nat) (hi : L[i]? = some (idxT g w0.heap.size S)) (hnum : S.num ≤ 1000000000000000000) (hd : S.dead ≤ 8000000000000) (id : Int) (hid : (Lit.int .i64 id).wf = true) (E : Int) (hE : (if (atE S.L id).isSome = true then 0 else 10) = E) (S1 : Ix) (hS1 : delX S id = S1) :
    Calls Tryz.prog 18 #[at0 g, .int .i64 id] w fun e w' => e = .returned (.int .i64 E) ∧ Sep w0 (L.set i (idxT g w0.heap.size S1)) w' := by
  obtain ⟨o1, o2, k1, k2⟩ := sep_idx h i hi
  subst hE hS1
  exact (DeleteP w k1 hnum hd id hid).mono fun e w' ⟨q1, q2⟩ => ⟨q1, k2 w' _ q2⟩
theorem FlushIx (h : Sep w0 L w) (i : Nat) (hi : L[i]? = some (idxT g w0.heap.size S)) (hnum : S.num ≤ 1000000000000000000) (hruns : S.runs ≤ 8000000000000) (E : Bool) (hE : decide (cntB S.L ≠ 0) = E) (S1 : Ix) (hS1 : (if cntB S.L = 0 then S else flushX S) = S1) :
    Calls Tryz.prog 34 #[at0 g] w fun e w' => e = .returned (.bool E) ∧ Sep w0 (L.set i (idxT g w0.heap.size S1)) w' := by
  obtain ⟨o1, o2, k1, k2⟩ := sep_idx h i hi
  subst hE hS1
  exact (FlushP w k1 hnum hruns).mono fun e w' ⟨q1, q2⟩ => ⟨q1, k2 w' _ q2⟩
theorem CompactIx (h : Sep w0 L w) (i : Nat) (hi : L[i]? = some (idxT g w0.heap.size S)) (hnum : S.num ≤ 1000000000000000000) (S1 : Ix) (hS1 : compactX S = S1) :
    Calls Tryz.prog 35 #[at0 g] w fun e w' => e = .returned (.tuple #[]) ∧ Sep w0 (L.set i (idxT g w0.heap.size S1)) w' := by
  obtain ⟨o1, o2, k1, k2⟩ := sep_idx h i hi
  subst hS1
  exact (CompactP w k1 hnum).mono fun e w' ⟨q1, q2⟩ => ⟨q1, k2 w' _ q2⟩
theorem RunsIx (h : Sep w0 L w) (i : Nat) (hi : L[i]? = some (idxT g w0.heap.size S)) (n : Nat) (hn : S.runs = n) : Calls Tryz.prog 28 #[at0 g] w fun e w' => e = .returned (.int .i64 (n : Int)) ∧ w = w' := by
  obtain ⟨o1, o2, k1, k2⟩ := sep_idx h i hi
  subst hn
  exact RunsP w g _ S o1 o2 k1
theorem BufferedIx (h : Sep w0 L w) (i : Nat) (hi : L[i]? = some (idxT g w0.heap.size S)) (n : Nat) (hn : cntB S.L = n) : Calls Tryz.prog 29 #[at0 g] w fun e w' => e = .returned (.int .i64 (n : Int)) ∧ w = w' := by
  obtain ⟨o1, o2, k1, k2⟩ := sep_idx h i hi
  subst hn
  exact BufferedP w g _ S o1 o2 k1
theorem DeadIx (h : Sep w0 L w) (i : Nat) (hi : L[i]? = some (idxT g w0.heap.size S)) (n : Nat) (hn : S.dead = n) : Calls Tryz.prog 31 #[at0 g] w fun e w' => e = .returned (.int .i64 (n : Int)) ∧ w = w' := by
  obtain ⟨o1, o2, k1, k2⟩ := sep_idx h i hi
  subst hn
  exact DeadP w g _ S o1 o2 k1
theorem DocsIx (h : Sep w0 L w) (i : Nat) (hi : L[i]? = some (idxT g w0.heap.size S)) (hnum : S.num ≤ 1000000000000000000) (n : Nat) (hn : S.L.length = n) :
    Calls Tryz.prog 19 #[at0 g] w fun e w' => ∃ A c, e = .returned (.slice A n c) ∧ Sep w0 (L ++ [rowT KI TI w0.heap.size (.slice A n c) (S.L.map (·.id))]) w' := by
  obtain ⟨o1, o2, k1, k2⟩ := sep_idx h i hi
  subst hn
  refine (DocsP w k1 hnum).mono ?_
  rintro e w' ⟨v, rfl, p1, p2⟩
  obtain ⟨A, c, rfl⟩ := Kd.R_slice p1
  rw [List.length_map] at p1 ⊢
  exact ⟨A, c, rfl, Sep.newR h p1 p2⟩
theorem PostingsIx (h : Sep w0 L w) (i : Nat) (hi : L[i]? = some (idxT g w0.heap.size S)) (hnum : S.num ≤ 1000000000000000000) (hb : ∀ e ∈ S.L, (wds e.b).length ≤ 13000000) (t : ByteArray) (ht : t.size ≤ maxLen) (l : List SPo) (hl : postE S.L t.data.toList = l) (n : Nat) (hn : l.length = n) :
    Calls Tryz.prog 22 #[at0 g, .string t] w fun e w' => ∃ A c, e = .returned (.slice A n c) ∧ Sep w0 (L ++ [rowT kPo TPo w0.heap.size (.slice A n c) l]) w' := by
  obtain ⟨o1, o2, k1, k2⟩ := sep_idx h i hi
  subst hl hn
  refine (PostingsP w k1 hnum hb t ht).mono ?_
  rintro e w' ⟨v, rfl, p1, p2⟩
  obtain ⟨A, c, rfl⟩ := Kd.R_slice p1
  exact ⟨A, c, rfl, Sep.newR h p1 p2⟩
theorem TermsIx (h : Sep w0 L w) (i : Nat) (hi : L[i]? = some (idxT g w0.heap.size S)) (hnum : S.num ≤ 1000000000000000000) (hb : ∀ e ∈ S.L, (wds e.b).length ≤ 13000000) :
    Calls Tryz.prog 21 #[at0 g] w fun e w' => ∃ A c ss, e = .returned (.slice A ss.length c) ∧ IsTerms S.L ss ∧ Sep w0 (L ++ [rowT KSt TSt w0.heap.size (.slice A ss.length c) (ss.map mkB)]) w' := by
  obtain ⟨o1, o2, k1, k2⟩ := sep_idx h i hi
  refine (TermsP w k1 hnum hb).mono ?_
  rintro e w' ⟨v, ss, rfl, p0, p1, p2⟩
  obtain ⟨A, c, rfl⟩ := Kd.R_slice p1
  rw [List.length_map] at p1 ⊢
  exact ⟨A, c, ss, rfl, p0, Sep.newR h p1 p2⟩
theorem DocIx (h : Sep w0 L w) (i : Nat) (hi : L[i]? = some (idxT g w0.heap.size S)) (hnum : S.num ≤ 1000000000000000000) (id : Int) (hid : (Lit.int .i64 id).wf = true) (x : En) (he : atE S.L id = some x) (hlen : x.b.length ≤ 65536) (b : List Int) (hb : x.b = b) (n : Nat) (hn : b.length = n) :
    Calls Tryz.prog 36 #[at0 g, .int .i64 id] w fun e w' => ∃ A c, e = .returned (.tuple #[.slice A n c, .bool true]) ∧ Sep w0 (L ++ [rowT KB TB w0.heap.size (.slice A n c) b]) w' := by
  obtain ⟨o1, o2, k1, k2⟩ := sep_idx h i hi
  subst hb hn
  refine (DocSome w k1 hnum id hid x he hlen).mono ?_
  rintro e w' ⟨v, rfl, p1, p2⟩
  obtain ⟨A, c, rfl⟩ := Kd.R_slice p1
  exact ⟨A, c, rfl, Sep.newR h p1 p2⟩
theorem WordsIx (h : Sep w0 L w) (i : Nat) (hi : L[i]? = some (idxT g w0.heap.size S)) (hnum : S.num ≤ 1000000000000000000) (id : Int) (hid : (Lit.int .i64 id).wf = true) (x : En) (he : atE S.L id = some x) (l : List SW) (hl : wds x.b = l) (hlen : l.length ≤ 13000000) (n : Nat) (hn : l.length = n) :
    Calls Tryz.prog 20 #[at0 g, .int .i64 id] w fun e w' => ∃ A c, e = .returned (.slice A n c) ∧ Sep w0 (L ++ [rowT kW TW w0.heap.size (.slice A n c) l]) w' := by
  obtain ⟨o1, o2, k1, k2⟩ := sep_idx h i hi
  subst hn
  refine (WordsSome w k1 hnum id hid x he l hl hlen).mono ?_
  rintro e w' ⟨v, rfl, p1, p2⟩
  obtain ⟨A, c, rfl⟩ := Kd.R_slice p1
  exact ⟨A, c, rfl, Sep.newR h p1 p2⟩
end
end Go.Proofs.YtdambnclbpipdaaGreatDoor.Mv
namespace Go.Proofs.YtdambnclbpipdaaGreatDoor.Mw
set_option linter.unusedVariables false
set_option linter.unusedSimpArgs false
open Go.Proofs.YtdambnclbpipdaaGreatDoor.Ux (Bytes)
open Go.RowKit Go.Maps Go.Proofs.YtdambnclbpipdaaGreatDoorW.PrintWords Go.Proofs.YtdambnclbpipdaaGreatDoor.Hp Go.Proofs.YtdambnclbpipdaaGreatDoor.Fm Go.Proofs.YtdambnclbpipdaaGreatDoor.X Go.Proofs.YtdambnclbpipdaaGreatDoor.Va Go.Proofs.YtdambnclbpipdaaGreatDoor.Ma Go.Proofs.YtdambnclbpipdaaGreatDoor.Mb Go.Proofs.YtdambnclbpipdaaGreatDoor.Mc Go.Proofs.YtdambnclbpipdaaGreatDoor.Md Go.Proofs.YtdambnclbpipdaaGreatDoor.Mi Go.Proofs.YtdambnclbpipdaaGreatDoor.Mk Go.Proofs.YtdambnclbpipdaaGreatDoor.Mn Go.Proofs.YtdambnclbpipdaaGreatDoor.Ms Go.Proofs.YtdambnclbpipdaaGreatDoor.Mt Go.Proofs.YtdambnclbpipdaaGreatDoor.Mv Go.Proofs.YtdambnclbpipdaaGreatDoor.Sga Go.Proofs.YtdambnclbpipdaaGreatDoor.Wd Go.Proofs.YtdambnclbpipdaaGreatDoor.Wj
def fb1 : List Int := [65, 32, 98]
def fb2 : List Int := [98]
theorem wer1 : wer fb1 = 0 := by kernel_rfl
theorem wer2 : wer fb2 = 0 := by kernel_rfl
theorem wds1 : wds fb1 = [⟨⟨#[97]⟩, ⟨0, 1, 0, 1⟩⟩, ⟨⟨#[98]⟩, ⟨2, 3, 2, 3⟩⟩] := by kernel_rfl
theorem wds2 : wds fb2 = [⟨⟨#[98]⟩, ⟨0, 1, 0, 1⟩⟩] := by kernel_rfl
def s0 : Ix := ⟨2, [], 0, 0, 0⟩
def s1 : Ix := ⟨2, [⟨5, 0, fb1⟩], 0, 0, 0⟩
def s2 : Ix := ⟨2, [⟨3, 1, fb2⟩, ⟨5, 1, fb1⟩], 1, 1, 0⟩
def s3 : Ix := ⟨2, [⟨3, 1, fb2⟩], 1, 1, 1⟩
theorem add1 : addE s0 5 fb1 = 0 := by
  unfold addE
  rw [if_neg (by decide), if_neg (by decide), if_neg (by decide), if_neg (by decide), wer1]
theorem add2 : addE s1 3 fb2 = 0 := by
  unfold addE
  rw [if_neg (by decide), if_neg (by decide), if_neg (by decide), if_neg (by decide), wer2]
theorem add3 : addE s2 3 [] = 9 := by
  unfold addE
  rw [if_neg (by decide), if_neg (by decide), if_pos (by decide)]
theorem adx1 : addX s0 5 fb1 = s1 := by
  unfold addX
  rw [if_pos add1, if_neg (by decide)]
  rfl
theorem adx2 : addX s1 3 fb2 = s2 := by
  unfold addX
  rw [if_pos add2, if_pos (by decide)]
  rfl
theorem adx3 : addX s2 3 [] = s2 := by
  unfold addX
  rw [if_neg (by rw [add3]; decide)]
theorem dlx : delX s2 5 = s3 := by rfl
theorem pst : postE s2.L (⟨#[98]⟩ : ByteArray).data.toList = [⟨3, [0]⟩, ⟨5, [1]⟩] := by kernel_rfl
theorem few2 : ∀ e ∈ s2.L, (wds e.b).length ≤ 13000000 := by
  intro e he
  simp only [s2, List.mem_cons, List.not_mem_nil, or_false] at he
  rcases he with rfl | rfl
  · simp only [wds2]; decide
  · simp only [wds1]; decide
theorem few3 : ∀ e ∈ s3.L, (wds e.b).length ≤ 13000000 := fun e he => few2 e (by simp only [s3, s2, List.mem_cons, List.not_mem_nil, or_false] at he ⊢; exact .inl he)
theorem term3 {ss : List (List UInt8)} (h : IsTerms s3.L ss) : ss.length = 1 := by
  have hm : ∀ s, s ∈ ss ↔ s = [98] := by
    intro s
    rw [h.2]
    simp only [s3, List.mem_cons, List.not_mem_nil, or_false, exists_eq_left, wds2, ords]
    by_cases e : s = [98]
    · subst e
      simp
    · simp [e]
      exact fun e2 => e e2.symm
  match ss, h, hm with
  | [], _, hm => exact absurd ((hm [98]).2 rfl) (by simp)
  | [a], _, _ => rfl
  | a :: b :: t, h, hm =>
    have ha := (hm a).1 (by simp)
    have hb := (hm b).1 (by simp)
    have := (List.pairwise_cons.1 h.1).1 b (by simp)
    exact absurd (ha.trans hb.symm) this.2
theorem byt1 : Bytes fb1 := by
  intro x hx
  simp only [fb1, List.mem_cons, List.not_mem_nil, or_false] at hx
  rcases hx with rfl | rfl | rfl <;> decide
theorem byt2 : Bytes fb2 := by
  intro x hx
  simp only [fb2, List.mem_cons, List.not_mem_nil, or_false] at hx
  rcases hx with rfl <;> decide
set_option maxRecDepth 100000 in
set_option maxHeartbeats 8000000 in
theorem memFixedP (w : World) (hG : G w) : Calls Tryz.prog 15 #[] w fun e w' => e = .returned (.bool true) ∧ Below w.heap.size w w' := by
  have kc := fun (W : World) (C : Array Value) (n c : Nat) => Lib.run_convert_bytes_const (P := Tryz.prog) W 28 5 C n c Tryz.underlying28 Tryz.underlying5
  have S0 := Aside0.mk (Sep.nil w)
  go_enter Tryz.func15, Tryz.ntmps15
  go_upto_region 2 with (first | (go_at_call 16; refine (NewIx S0.out 2 (by decide) (by decide)).mono ?_; rintro e w1 ⟨g, rfl, p1⟩; have S1 := Aside0.mk p1; clear p1 S0))
  go_upto_region 3 with (first | (go_at_call 16; refine (NewBad w1 0 (.inl (by decide))).mono ?_; rintro e w2 ⟨rfl, rfl⟩))
  have HG := Aside0.mk hG
  clear hG
  go_upto_region 6 with (first
    | (go_at_call 17; refine (AddIx HG.out (S1.out.later (below_alloc (Below.refl _ _) _)) 0 rfl (by decide) (by decide) 5 _ 3 3 fb1 (Sgf.litB w1 _ _ fb1 rfl (by simp [fb1])) rfl (Nat.le_refl _) byt1 0 add1 s1 adx1).mono ?_; rintro e w3 ⟨rfl, p1⟩; have S3 := Aside0.mk p1; clear p1 S1)
    | (go_at_call 17; refine (AddIx HG.out (S3.out.later (below_alloc (Below.refl _ _) _)) 0 rfl (by decide) (by decide) 3 _ 1 1 fb2 (Sgf.litB w3 _ _ fb2 rfl (by simp [fb2])) rfl (Nat.le_refl _) byt2 0 add2 s2 adx2).mono ?_; rintro e w4 ⟨rfl, p1⟩; have S4 := Aside0.mk p1; clear p1 S3))
  go_upto_region 7 with (first
    | (go_at_call 22; refine (PostingsIx S4.out 0 rfl (by decide) few2 ⟨#[98]⟩ (by decide) _ pst 2 rfl).mono ?_; rintro e w5 ⟨A5, c5, rfl, p1⟩; have S5 := Aside0.mk p1; clear p1 S4))
  go_upto_region 8 with (first
    | (go_at_call 17; refine (AddIx HG.out S5.out 0 rfl (by decide) (by decide) 3 none 0 0 [] (Kd.C_nil KB w5) rfl (Nat.le_refl _) (fun x hx => by cases hx) 9 add3 s2 adx3).mono ?_; rintro e w6 ⟨rfl, p1⟩; have S6 := Aside0.mk p1; clear p1 S5))
  go_upto_region 9 with (first
    | (go_at_call 18; refine (DeleteIx S6.out 0 rfl (by decide) (by decide) 5 (by decide) 0 (by rfl) s3 dlx).mono ?_; rintro e w7 ⟨rfl, p1⟩; have S7 := Aside0.mk p1; clear p1 S6))
  go_upto_region 10 with (first
    | (go_at_call 36; refine (DocIx S7.out 0 rfl (by decide) 3 (by decide) ⟨3, 1, fb2⟩ rfl (by decide) fb2 rfl 1 rfl).mono ?_; rintro e w8 ⟨A8, c8, rfl, p1⟩; have S8 := Aside0.mk p1; clear p1 S7))
  have S9 := Aside0.mk (show Sep w [idxT g w.heap.size s3, rowT kPo TPo w.heap.size (.slice A5 2 c5) [⟨3, [0]⟩, ⟨5, [1]⟩], rowT KB TB w.heap.size (.slice A8 1 c8) fb2] w8 by simpa using S8.out)
  have hp := (Sep.rows (d := kPo) (e := TPo) (base := w.heap.size) (A := A5) (m := 2) (c := c5) (xs := [⟨3, [0]⟩, ⟨5, [1]⟩]) S9.out 1 rfl).2.2
  obtain ⟨ad, A1, c1, rfl, z0, -⟩ := at_T43 hp 0 (by decide) (by decide)
  rw [show ad.add ((0 : Int).toNat * 2) = ad by cases ad; simp [Addr.add]] at z0
  replace z0 : w8.cell? ad = some (.int .i64 3) := z0
  obtain ⟨okb, hb⟩ := Sep.one S9.out 2 _ rfl
  have hcv : (convert 28 9 (.slice A8 1 c8)).run Tryz.prog w8 = .ok (.string ⟨#[98]⟩) w8 := by
    have := own_string (P := Tryz.prog) (src := 28) (dst := 9) Tryz.underlying28 Tryz.underlying5 Tryz.underlying9 (Kd.own_of_R (show KB.R TB w8 w.heap.size okb (.slice A8 1 c8) fb2 from hb))
    exact this
  clear hp hb S8
  have W3 := Aside0.mk (show atE s3.L 3 = some ⟨3, 1, fb2⟩ from rfl)
  go_wp2_with (first
    | (go_at_call 28; refine (RunsIx S9.out 0 rfl 1 rfl).mono ?_; rintro e w9 ⟨rfl, rfl⟩)
    | (go_at_call 31; refine (DeadIx S9.out 0 rfl 1 rfl).mono ?_; rintro e w9 ⟨rfl, rfl⟩)
    | (go_at_call 20; refine (WordsIx S9.out 0 rfl (by decide) 3 (by decide) ⟨3, 1, fb2⟩ W3.out _ wds2 (by decide) 1 rfl).mono ?_; rintro e w9 ⟨A9, c9, rfl, p1⟩; have n0_ := Aside0.mk (Sep.init p1); clear p1 S9; have S9 := n0_; clear n0_)
    | (go_at_call 21; refine (TermsIx S9.out 0 rfl (by decide) few3).mono ?_; rintro e w10 ⟨A10, c10, ss, rfl, pt, p1⟩; rw [term3 pt]; have n0_ := Aside0.mk (Sep.init p1); clear p1 pt S9; have S9 := n0_; clear n0_)
    | (go_at_call 19; refine (DocsIx S9.out 0 rfl (by decide) 1 rfl).mono ?_; rintro e w11 ⟨A11, c11, rfl, p1⟩; have n0_ := Aside0.mk (Sep.init p1); clear p1 S9; have S9 := n0_; clear n0_)
    | (go_at_call 29; refine (BufferedIx S9.out 0 rfl 0 rfl).mono ?_; rintro e w12 ⟨rfl, rfl⟩)
    | (go_at_call 34; refine (FlushIx S9.out 0 rfl (by decide) (by decide) false (by decide) s3 rfl).mono ?_; rintro e w13 ⟨rfl, p1⟩; have SZ := Aside0.mk p1; clear p1))
  go_ret
  exact ⟨rfl, SZ.out.below⟩
end Go.Proofs.YtdambnclbpipdaaGreatDoor.Mw
namespace Go.Proofs.YtdambnclbpipdaaGreatDoor.Lmr
set_option linter.unusedVariables false
set_option linter.unusedSimpArgs false
open Go.Proofs.YtdambnclbpipdaaGreatDoor.Ux (Bytes)
open Go.RowKit Go.Maps Go.Proofs.YtdambnclbpipdaaGreatDoorW.PrintWords Go.Proofs.YtdambnclbpipdaaGreatDoorW.PrintLast Go.Proofs.YtdambnclbpipdaaGreatDoorW.PrintMore Go.Proofs.YtdambnclbpipdaaGreatDoor.Hp Go.Proofs.YtdambnclbpipdaaGreatDoor.Fm Go.Proofs.YtdambnclbpipdaaGreatDoor.X Go.Proofs.YtdambnclbpipdaaGreatDoor.Va Go.Proofs.YtdambnclbpipdaaGreatDoor.Ma Go.Proofs.YtdambnclbpipdaaGreatDoor.Mb Go.Proofs.YtdambnclbpipdaaGreatDoor.Mc Go.Proofs.YtdambnclbpipdaaGreatDoor.Md Go.Proofs.YtdambnclbpipdaaGreatDoor.Me Go.Proofs.YtdambnclbpipdaaGreatDoor.Mi Go.Proofs.YtdambnclbpipdaaGreatDoor.Mj Go.Proofs.YtdambnclbpipdaaGreatDoor.Mk Go.Proofs.YtdambnclbpipdaaGreatDoor.Mn Go.Proofs.YtdambnclbpipdaaGreatDoor.Mv Go.Proofs.YtdambnclbpipdaaGreatDoor.Mw Go.Proofs.YtdambnclbpipdaaGreatDoor.Odo Go.Proofs.YtdambnclbpipdaaGreatDoor.Sga
attribute [local go_sem] max2_int min2_int
abbrev OpT := Int × Int × List Int
def stepR (S : Ix) (o : OpT) : Ix := if o.1 = 1 then addX S o.2.1 o.2.2 else if o.1 = 2 then delX S o.2.1 else if o.1 = 3 then (if cntB S.L = 0 then S else flushX S) else S
def InvR (f : Int) (S : Ix) (i : Nat) : Prop := S.flush = f ∧ (cntB S.L : Int) < f ∧ S.num ≤ i ∧ S.runs ≤ i ∧ S.dead ≤ i
theorem invR_flush {f : Int} {S : Ix} {i : Nat} (hf : 1 ≤ f) (h0 : 0 ≤ S.num) (h : S.flush = f ∧ S.num ≤ i ∧ S.runs ≤ i ∧ S.dead ≤ i) : InvR f (flushX S) (i + 1) := by
  refine ⟨h.1, ?_, ?_, ?_, ?_⟩
  · show ((cntB (toRun (S.num + 1) S.L) : Nat) : Int) < f
    rw [cnt_toRun (by omega)]
    omega
  · show S.num + 1 ≤ ((i + 1 : Nat) : Int); omega
  · show S.runs + 1 ≤ i + 1; omega
  · show S.dead ≤ i + 1; omega
theorem invR_more {f : Int} {S : Ix} {i : Nat} (h : InvR f S i) : InvR f S (i + 1) := ⟨h.1, h.2.1, by have := h.2.2.1; omega, by have := h.2.2.2.1; omega, by have := h.2.2.2.2; omega⟩
theorem invR_step {f : Int} {S : Ix} {i : Nat} (hf : 1 ≤ f) (h0 : 0 ≤ S.num) (hs : Srt S.L) (h : InvR f S i) (o : OpT) : InvR f (stepR S o) (i + 1) := by
  obtain ⟨h1, h2, h3, h4, h5⟩ := h
  unfold stepR
  split
  · unfold addX
    split
    · split
      · exact invR_flush hf h0 ⟨h1, h3, h4, h5⟩
      · rename_i hn
        have hn : ¬ S.flush ≤ ((cntB (layX S o.2.1 o.2.2).L : Nat) : Int) := hn
        exact ⟨h1, by rw [h1] at hn; omega, by show S.num ≤ ((i + 1 : Nat) : Int); omega, by show S.runs ≤ i + 1; omega, by show S.dead ≤ i + 1; omega⟩
    · exact invR_more ⟨h1, h2, h3, h4, h5⟩
  · split
    · unfold delX
      split
      · exact invR_more ⟨h1, h2, h3, h4, h5⟩
      · rename_i e he
        have hl := (len_del hs he).2
        refine ⟨h1, ?_, by show S.num ≤ ((i + 1 : Nat) : Int); omega, by show S.runs ≤ i + 1; omega, ?_⟩
        · show ((cntB (delE o.2.1 S.L) : Nat) : Int) < f
          omega
        · show (if e.run = 0 then S.dead else S.dead + 1) ≤ i + 1
          split <;> omega
    · split
      · split
        · exact invR_more ⟨h1, h2, h3, h4, h5⟩
        · exact invR_flush hf h0 ⟨h1, h3, h4, h5⟩
      · exact invR_more ⟨h1, h2, h3, h4, h5⟩
theorem idx_facts {w0 w : World} {L : List Th} {g : Nat} {S : Ix} (h : Sep w0 L w) (i : Nat) (hi : L[i]? = some (idxT g w0.heap.size S)) : 0 ≤ S.num ∧ Srt S.L ∧ S.L.length ≤ 256 := by
  obtain ⟨o1, o2, ⟨bm, dm, rv, Db, Dd, RS, ad, k⟩, -⟩ := sep_idx h i hi
  exact ⟨k.good.num0, k.good.srt, k.small⟩
theorem byt_wf {b : List Int} (h : ∀ x ∈ b, (Lit.int .u8 x).wf = true) : Bytes b := Ot.wf_bytes h
theorem compact_facts {S S2 : Ix} (h0 : 0 ≤ S.num) (h : compactX S = S2) : S2.dead = 0 ∧ cntB S2.L = 0 ∧ S2.L.length = S.L.length ∧ S2.runs = min S.L.length 1 ∧ S2.num ≤ S.num + 1 := by
  subst h
  unfold compactX
  by_cases hL : S.L = []
  · rw [if_pos hL]
    simp only [hL]
    exact ⟨trivial, rfl, trivial, rfl, by omega⟩
  · rw [if_neg hL]
    have : 0 < S.L.length := List.length_pos_iff.2 hL
    exact ⟨rfl, cnt_allRun (by omega) _, by simp [allRun], by show 1 = _; omega, Int.le_refl _⟩
set_option maxRecDepth 100000 in
set_option maxHeartbeats 8000000 in
theorem runsBad (w : World) (hG : G w) (f : Int) (hf : f < 1 ∨ 256 < f) (A : Option Addr) (n c : Nat) : Calls Tryz.prog 8 #[.int .i64 f, .slice A n c] w fun e w' => e = .returned (.bool true) ∧ Below w.heap.size w w' := by
  go_enter Tryz.func8, Tryz.ntmps8
  go_wp2_with (first
    | (go_at_call 15; refine (memFixedP w hG).mono ?_; rintro e w1 ⟨rfl, p1⟩; have P1 := Aside0.mk p1; clear p1)
    | (go_at_call 16; refine (NewBad w1 f hf).mono ?_; rintro e w2 ⟨rfl, rfl⟩))
  go_ret
  exact ⟨rfl, P1.out⟩
set_option maxRecDepth 100000 in
set_option maxHeartbeats 8000000 in
theorem memRunsP (w : World) (hG : G w) (f : Int) (hf : 1 ≤ f ∧ f ≤ 256) (A : Option Addr) (n c : Nat) (l : List OpT) (hC : kOp.C w A n l) (hn : n = l.length) (hw : ∀ o ∈ l, opW o) (hlen : n ≤ 4000000000000) :
    Calls Tryz.prog 8 #[.int .i64 f, .slice A n c] w fun e w' => e = .returned (.bool true) ∧ Below w.heap.size w w' := by
  have HG := Aside0.mk hG
  have HC := Aside0.mk hC
  have HN := Aside0.mk hn
  have HW := Aside0.mk hw
  clear hG hC hn hw
  go_enter Tryz.func8, Tryz.ntmps8
  go_upto_region 6 with (first
    | (go_at_call 15; refine (memFixedP w HG.out).mono ?_; rintro e w1 ⟨rfl, p1⟩; have S1 := Aside0.mk (Sep.start p1); clear p1)
    | (go_at_call 16; refine (NewIx S1.out f hf.1 hf.2).mono ?_; rintro e w2 ⟨g, rfl, p1⟩; have S2 := Aside0.mk p1; clear p1 S1))
  go_wp2
  go_loopw [23] (fun v wr => ∃ (i : Nat) (S : Ix), v = .int .i64 i ∧ i ≤ n ∧ Aside0 (Sep w [idxT g w.heap.size S] wr) ∧ Aside0 (InvR f S i)) (fun v _ => n - (intOf v).toNat)
  case atStart => exact ⟨0, ⟨f, [], 0, 0, 0⟩, rfl, Nat.zero_le _, S2, ⟨⟨rfl, by show (0 : Int) < f; omega, Int.le_refl _, Nat.le_refl _, Nat.le_refl _⟩⟩⟩
  case round =>
    obtain ⟨i, S, rfl, hi, HS, HI⟩ := hrel
    clear S2
    by_cases hlt : i < n
    · have hd : decide ((i : Int) < (n : Int)) = true := decide_eq_true (by omega)
      have hd2 : decide (i < n) = true := decide_eq_true hlt
      have hil : i < l.length := by have := HN.out; omega
      obtain ⟨o, ho⟩ : ∃ o, l[i]? = some o := ⟨l[i], List.getElem?_eq_getElem hil⟩
      have hoe : l[i] = o := by rw [List.getElem?_eq_getElem hil] at ho; injection ho
      have how := HW.out o (List.mem_of_getElem? ho)
      obtain ⟨a, A1, c1, rfl, x0, x1, x2, hc1, hC1⟩ := op_at HC.out i hlt hil
      rw [hoe] at x0 x1 x2 hc1 hC1
      obtain ⟨k, id, b⟩ := o
      simp only at x0 x1 x2 hc1 hC1
      have x0 := pw_cell_below HS.out.below x0
      have x1 := pw_cell_below HS.out.below x1
      have x2 := pw_cell_below HS.out.below x2
      obtain ⟨m, hm⟩ : ∃ m, m = b.length := ⟨_, rfl⟩
      rw [← hm] at x2 hc1 hC1
      have hwi : wrap64 ((i : Int) + 1) = (i : Int) + 1 := by unfold wrap64; omega
      have hfa := idx_facts HS.out 0 rfl
      have HSt := Aside0.mk (invR_step hf.1 hfa.1 hfa.2.1 HI.out (k, id, b))
      have hnm : S.num ≤ 1000000000000000000 := by have := HI.out.2.2.1; omega
      have hrn : S.runs ≤ 7000000000000 := by have := HI.out.2.2.2.1; omega
      have hde : S.dead ≤ 8000000000000 := by have := HI.out.2.2.2.2; omega
      have hid : (Lit.int .i64 id).wf = true := how.2.1
      have HBY := Aside0.mk (byt_wf how.2.2)
      have HC1 := Aside0.mk (Kd.C_below hC1 HS.out.below)
      have HM := Aside0.mk hm
      have HIDW := Aside0.mk hid
      clear ho hoe hil how hC1 hm hfa hid
      go_upto_region 9 with (fail)
      obtain ⟨wr1, hwr1⟩ : ∃ wr1, wr1 = wr.alloc (.cells #[.int .i64 k, .int .i64 id, .slice A1 m c1] 30) := ⟨_, rfl⟩
      rw [← hwr1]
      obtain ⟨hb, hhb⟩ : ∃ hb, hb = wr.heap.size := ⟨_, rfl⟩
      rw [← hhb]
      have bb : Below wr.heap.size wr wr1 := by rw [hwr1]; exact below_alloc (Below.refl _ _) _
      have hx1 : wr1.heap[hb]? = some (.cells #[.int .i64 k, .int .i64 id, .slice A1 m c1] 30 (0, 0)) := by rw [hwr1, hhb]; exact heap_alloc_new wr _
      have y0 : wr1.cell? ⟨hb, 0, none⟩ = some (.int .i64 k) := by simpa using blk_cell hx1 0
      have y1 : wr1.cell? ⟨hb, 1, none⟩ = some (.int .i64 id) := by simpa using blk_cell hx1 1
      have y2 : wr1.cell? ⟨hb, 2, none⟩ = some (.slice A1 m c1) := by simpa using blk_cell hx1 2
      have T1 := Aside0.mk (HS.out.later bb)
      have D1 := Aside0.mk (Kd.C_below HC1.out bb)
      clear hwr1 hhb bb hx1 x0 x1 x2 HS HC1
      by_cases k1 : k = 1
      · subst k1
        have hst : stepR S (1, id, b) = addX S id b := rfl
        rw [hst] at HSt
        obtain ⟨S', hS'⟩ : ∃ S', addX S id b = S' := ⟨_, rfl⟩
        obtain ⟨E, hE⟩ : ∃ E, addE S id b = E := ⟨_, rfl⟩
        rw [hS'] at HSt
        have HS' := Aside0.mk hS'
        have HE := Aside0.mk hE
        clear hst hS' hE
        go_upto_region 16 with (first
          | (go_at_call 17; refine (AddIx HG.out T1.out 0 rfl hnm hrn id A1 m c1 b D1.out HM.out hc1 HBY.out E HE.out S' HS'.out).mono ?_; rintro e w5 ⟨rfl, p1⟩; have T2 := Aside0.mk p1; clear p1))
        obtain ⟨q, hq⟩ : ∃ q, cntB S'.L = q := ⟨_, rfl⟩
        obtain ⟨mm, hmm⟩ : ∃ mm, S'.L.length = mm := ⟨_, rfl⟩
        obtain ⟨dd, hdd⟩ : ∃ dd, S'.dead = dd := ⟨_, rfl⟩
        have hqm : q ≤ mm := by rw [← hq, ← hmm]; exact List.length_filter_le _ _
        have hqf : (q : Int) < f := by rw [← hq]; exact HSt.out.2.1
        have t1 : decide (f ≤ (q : Int)) = false := decide_eq_false (by omega)
        have t2 : decide ((mm : Int) < (q : Int)) = false := decide_eq_false (by omega)
        have t3 : decide (mm < q) = false := decide_eq_false (by omega)
        have t4 : decide ((dd : Int) < 0) = false := decide_eq_false (by omega)
        have hn2 : S'.num ≤ 1000000000000000000 := by have := HSt.out.2.2.1; omega
        have HQ := Aside0.mk hq
        have HMM := Aside0.mk hmm
        have HDD := Aside0.mk hdd
        clear hq hmm hdd T1 D1 y0 y1 y2
        go_wp2_with (first
          | (go_at_call 29; refine (BufferedIx T2.out 0 rfl q HQ.out).mono ?_; rintro e w9 ⟨rfl, rfl⟩)
          | (go_at_call 19; refine (DocsIx T2.out 0 rfl hn2 mm HMM.out).mono ?_; rintro e w11 ⟨A11, c11, rfl, p1⟩; have n0_ := Aside0.mk (Sep.init p1); clear p1 T2; have T2 := n0_; clear n0_)
          | (go_at_call 31; refine (DeadIx T2.out 0 rfl dd HDD.out).mono ?_; rintro e w9 ⟨rfl, rfl⟩))
        go_roundw
        case rel => exact ⟨i + 1, S', by go_num, by omega, T2, HSt⟩
        case measure => first | exact less_ hwi hlt | exact less_ rfl hlt
      · have n1 : decide (k = 1) = false := decide_eq_false k1
        have n1b : (k == (1 : Int)) = false := by simpa using k1
        by_cases k2 : k = 2
        · subst k2
          have hst : stepR S (2, id, b) = delX S id := rfl
          rw [hst] at HSt
          obtain ⟨S', hS'⟩ : ∃ S', delX S id = S' := ⟨_, rfl⟩
          obtain ⟨E, hE⟩ : ∃ E : Int, (if (atE S.L id).isSome = true then 0 else 10) = E := ⟨_, rfl⟩
          rw [hS'] at HSt
          have HS' := Aside0.mk hS'
          have HE := Aside0.mk hE
          clear hst hS' hE
          go_upto_region 16 with (first
            | (go_at_call 18; refine (DeleteIx T1.out 0 rfl hnm hde id HIDW.out E HE.out S' HS'.out).mono ?_; rintro e w5 ⟨rfl, p1⟩; have T2 := Aside0.mk p1; clear p1))
          obtain ⟨q, hq⟩ : ∃ q, cntB S'.L = q := ⟨_, rfl⟩
          obtain ⟨mm, hmm⟩ : ∃ mm, S'.L.length = mm := ⟨_, rfl⟩
          obtain ⟨dd, hdd⟩ : ∃ dd, S'.dead = dd := ⟨_, rfl⟩
          have hqm : q ≤ mm := by rw [← hq, ← hmm]; exact List.length_filter_le _ _
          have hqf : (q : Int) < f := by rw [← hq]; exact HSt.out.2.1
          have t1 : decide (f ≤ (q : Int)) = false := decide_eq_false (by omega)
          have t2 : decide ((mm : Int) < (q : Int)) = false := decide_eq_false (by omega)
          have t3 : decide (mm < q) = false := decide_eq_false (by omega)
          have t4 : decide ((dd : Int) < 0) = false := decide_eq_false (by omega)
          have hn2 : S'.num ≤ 1000000000000000000 := by have := HSt.out.2.2.1; omega
          have HQ := Aside0.mk hq
          have HMM := Aside0.mk hmm
          have HDD := Aside0.mk hdd
          clear hq hmm hdd T1 D1 y0 y1 y2
          go_wp2_with (first
            | (go_at_call 29; refine (BufferedIx T2.out 0 rfl q HQ.out).mono ?_; rintro e w9 ⟨rfl, rfl⟩)
            | (go_at_call 19; refine (DocsIx T2.out 0 rfl hn2 mm HMM.out).mono ?_; rintro e w11 ⟨A11, c11, rfl, p1⟩; have n0_ := Aside0.mk (Sep.init p1); clear p1 T2; have T2 := n0_; clear n0_)
            | (go_at_call 31; refine (DeadIx T2.out 0 rfl dd HDD.out).mono ?_; rintro e w9 ⟨rfl, rfl⟩))
          go_roundw
          case rel => exact ⟨i + 1, S', by go_num, by omega, T2, HSt⟩
          case measure => first | exact less_ hwi hlt | exact less_ rfl hlt
        · have n2 : decide (k = 2) = false := decide_eq_false k2
          have n2b : (k == (2 : Int)) = false := by simpa using k2
          by_cases k3 : k = 3
          · subst k3
            have hst : stepR S (3, id, b) = (if cntB S.L = 0 then S else flushX S) := rfl
            rw [hst] at HSt
            obtain ⟨S', hS'⟩ : ∃ S', (if cntB S.L = 0 then S else flushX S) = S' := ⟨_, rfl⟩
            obtain ⟨E, hE⟩ : ∃ E, decide (cntB S.L ≠ 0) = E := ⟨_, rfl⟩
            rw [hS'] at HSt
            have HS' := Aside0.mk hS'
            have HE := Aside0.mk hE
            clear hst hS' hE
            go_upto_region 16 with (first
              | (go_at_call 34; refine (FlushIx T1.out 0 rfl hnm (by omega) E HE.out S' HS'.out).mono ?_; rintro e w5 ⟨rfl, p1⟩; have T2 := Aside0.mk p1; clear p1))
            obtain ⟨q, hq⟩ : ∃ q, cntB S'.L = q := ⟨_, rfl⟩
            obtain ⟨mm, hmm⟩ : ∃ mm, S'.L.length = mm := ⟨_, rfl⟩
            obtain ⟨dd, hdd⟩ : ∃ dd, S'.dead = dd := ⟨_, rfl⟩
            have hqm : q ≤ mm := by rw [← hq, ← hmm]; exact List.length_filter_le _ _
            have hqf : (q : Int) < f := by rw [← hq]; exact HSt.out.2.1
            have t1 : decide (f ≤ (q : Int)) = false := decide_eq_false (by omega)
            have t2 : decide ((mm : Int) < (q : Int)) = false := decide_eq_false (by omega)
            have t3 : decide (mm < q) = false := decide_eq_false (by omega)
            have t4 : decide ((dd : Int) < 0) = false := decide_eq_false (by omega)
            have hn2 : S'.num ≤ 1000000000000000000 := by have := HSt.out.2.2.1; omega
            have HQ := Aside0.mk hq
            have HMM := Aside0.mk hmm
            have HDD := Aside0.mk hdd
            clear hq hmm hdd T1 D1 y0 y1 y2
            go_wp2_with (first
              | (go_at_call 29; refine (BufferedIx T2.out 0 rfl q HQ.out).mono ?_; rintro e w9 ⟨rfl, rfl⟩)
              | (go_at_call 19; refine (DocsIx T2.out 0 rfl hn2 mm HMM.out).mono ?_; rintro e w11 ⟨A11, c11, rfl, p1⟩; have n0_ := Aside0.mk (Sep.init p1); clear p1 T2; have T2 := n0_; clear n0_)
              | (go_at_call 31; refine (DeadIx T2.out 0 rfl dd HDD.out).mono ?_; rintro e w9 ⟨rfl, rfl⟩))
            go_roundw
            case rel => exact ⟨i + 1, S', by go_num, by omega, T2, HSt⟩
            case measure => first | exact less_ hwi hlt | exact less_ rfl hlt
          · have n3 : decide (k = 3) = false := decide_eq_false k3
            have n3b : (k == (3 : Int)) = false := by simpa using k3
            obtain ⟨S', hS'⟩ : ∃ S', S = S' := ⟨_, rfl⟩
            have hst : stepR S (k, id, b) = S := by unfold stepR; rw [if_neg k1, if_neg k2, if_neg k3]
            rw [hst] at HSt
            subst hS'
            clear hst
            have T2 := T1
            obtain ⟨S', hS'⟩ : ∃ S', S' = S := ⟨_, rfl⟩
            subst hS'
            go_upto_region 16 with (fail)
            obtain ⟨q, hq⟩ : ∃ q, cntB S'.L = q := ⟨_, rfl⟩
            obtain ⟨mm, hmm⟩ : ∃ mm, S'.L.length = mm := ⟨_, rfl⟩
            obtain ⟨dd, hdd⟩ : ∃ dd, S'.dead = dd := ⟨_, rfl⟩
            have hqm : q ≤ mm := by rw [← hq, ← hmm]; exact List.length_filter_le _ _
            have hqf : (q : Int) < f := by rw [← hq]; exact HSt.out.2.1
            have t1 : decide (f ≤ (q : Int)) = false := decide_eq_false (by omega)
            have t2 : decide ((mm : Int) < (q : Int)) = false := decide_eq_false (by omega)
            have t3 : decide (mm < q) = false := decide_eq_false (by omega)
            have t4 : decide ((dd : Int) < 0) = false := decide_eq_false (by omega)
            have hn2 : S'.num ≤ 1000000000000000000 := by have := HSt.out.2.2.1; omega
            have HQ := Aside0.mk hq
            have HMM := Aside0.mk hmm
            have HDD := Aside0.mk hdd
            clear hq hmm hdd T1 D1 y0 y1 y2
            go_wp2_with (first
              | (go_at_call 29; refine (BufferedIx T2.out 0 rfl q HQ.out).mono ?_; rintro e w9 ⟨rfl, rfl⟩)
              | (go_at_call 19; refine (DocsIx T2.out 0 rfl hn2 mm HMM.out).mono ?_; rintro e w11 ⟨A11, c11, rfl, p1⟩; have n0_ := Aside0.mk (Sep.init p1); clear p1 T2; have T2 := n0_; clear n0_)
              | (go_at_call 31; refine (DeadIx T2.out 0 rfl dd HDD.out).mono ?_; rintro e w9 ⟨rfl, rfl⟩))
            go_roundw
            case rel => exact ⟨i + 1, S', by go_num, by omega, T2, HSt⟩
            case measure => first | exact less_ hwi hlt | exact less_ rfl hlt
    · have hd : decide ((i : Int) < (n : Int)) = false := decide_eq_false (by omega)
      have hd2 : decide (i < n) = false := decide_eq_false hlt
      have hfa := idx_facts HS.out 0 rfl
      obtain ⟨S2, hS2⟩ : ∃ S2, compactX S = S2 := ⟨_, rfl⟩
      obtain ⟨q1, q2, q3, q4, q5⟩ := compact_facts hfa.1 hS2
      obtain ⟨mm, hmm⟩ : ∃ mm, S.L.length = mm := ⟨_, rfl⟩
      rw [hmm] at q3 q4
      have hnm : S.num ≤ 1000000000000000 := by have := HI.out.2.2.1; omega
      have hn1 : S.num ≤ 1000000000000000000 := by omega
      have hn2 : S2.num ≤ 1000000000000000000 := by omega
      have hmin : (if (1 : Int) < (mm : Int) then (1 : Int) else (mm : Int)) = ((min mm 1 : Nat) : Int) := by split <;> omega
      obtain ⟨rr, hrr⟩ : ∃ rr, min mm 1 = rr := ⟨_, rfl⟩
      rw [hrr] at hmin q4
      have T2 := HS
      have HS2 := Aside0.mk hS2
      have Q1 := Aside0.mk q1
      have Q2 := Aside0.mk q2
      have Q3 := Aside0.mk q3
      have Q4 := Aside0.mk q4
      have HMM := Aside0.mk hmm
      have hr8 : S2.runs ≤ 8000000000000 := by rw [q4, ← hrr]; omega
      have EF := Aside0.mk (show decide (cntB S2.L ≠ 0) = false by rw [q2]; rfl)
      clear hfa hS2 q1 q2 q3 q4 q5 hmm hrr hnm HS
      go_upto_region 21 with (first
        | (go_at_call 19; refine (DocsIx T2.out 0 rfl hn1 mm HMM.out).mono ?_; rintro e w11 ⟨A11, c11, rfl, p1⟩; have n0_ := Aside0.mk (Sep.init p1); clear p1 T2; have T2 := n0_; clear n0_)
        | (go_at_call 35; refine (CompactIx T2.out 0 rfl hn1 S2 HS2.out).mono ?_; rintro e w12 ⟨rfl, p1⟩; have n0_ := Aside0.mk p1; clear p1 T2; have T2 := n0_; clear n0_))
      go_wp2_with (first
        | (go_at_call 28; refine (RunsIx T2.out 0 rfl rr Q4.out).mono ?_; rintro e w9 ⟨rfl, rfl⟩)
        | (go_at_call 31; refine (DeadIx T2.out 0 rfl 0 Q1.out).mono ?_; rintro e w9 ⟨rfl, rfl⟩)
        | (go_at_call 29; refine (BufferedIx T2.out 0 rfl 0 Q2.out).mono ?_; rintro e w9 ⟨rfl, rfl⟩)
        | (go_at_call 19; refine (DocsIx T2.out 0 rfl hn2 mm Q3.out).mono ?_; rintro e w13 ⟨A13, c13, rfl, p1⟩; have n0_ := Aside0.mk (Sep.init p1); clear p1 T2; have T2 := n0_; clear n0_)
        | (go_at_call 34; refine (FlushIx T2.out 0 rfl hn2 hr8 false EF.out _ rfl).mono ?_; rintro e w14 ⟨rfl, p1⟩; have TZ := Aside0.mk p1.below; clear p1))
      go_ret
      exact ⟨rfl, TZ.out⟩
end Go.Proofs.YtdambnclbpipdaaGreatDoor.Lmr
namespace Go.Proofs.YtdambnclbpipdaaGreatDoor.X
set_option linter.unusedVariables false
set_option linter.unusedSimpArgs false
open Go.RowKit Go.Proofs.YtdambnclbpipdaaGreatDoor.Odo
open Classical in
noncomputable def tremalaw16_MemRuns.f (a : Int) (l : List Lmr.OpT) : Option Bool := if (Lit.int .i64 a).wf = true ∧ (∀ o ∈ l, opW o) ∧ l.length ≤ 4000000000000 then some true else none
theorem tremalaw16_MemRuns.calls (a0 : Int) (A1 : Option Addr) (c1 : Nat) (l : List Lmr.OpT) (r : Bool) (w : World) (hr : kOp.C w A1 l.length l) (hc : l.length ≤ c1) (h : tremalaw16_MemRuns.f a0 l = some r) (hG0 : Va.G w) :
  Calls Tryz.prog 8 #[.int .i64 a0, .slice A1 l.length c1] w fun e w' => e = .returned (.bool r) ∧ Below w.heap.size w w' := by
  unfold tremalaw16_MemRuns.f at h
  split at h
  · rename_i hh
    cases Option.some.inj h
    by_cases hf : 1 ≤ a0 ∧ a0 ≤ 256
    · exact Lmr.memRunsP w hG0 a0 hf A1 l.length c1 l hr rfl hh.2.1 hh.2.2
    · exact Lmr.runsBad w hG0 a0 (by omega) A1 l.length c1
  · cases h
theorem tremalaw16_MemRuns.pure (a : Int) (w0 : (Lit.int .i64 a).wf = true) (xs : List Lmr.OpT) (hw : ∀ x ∈ xs, opW x) (hz : xs.length * 40 ≤ 140737488351232) : tremalaw16_MemRuns.f a xs = some true := by
  unfold tremalaw16_MemRuns.f
  rw [if_pos ⟨w0, hw, by omega⟩]
end Go.Proofs.YtdambnclbpipdaaGreatDoor.X
namespace Go.Proofs.YtdambnclbpipdaaGreatDoor.Lv
set_option linter.unusedVariables false
set_option linter.unusedSimpArgs false
open Go.ChangeShapes Go.WideShapes Go.ChangeAt Go.RowKit Go.Proofs.YtdambnclbpipdaaGreatDoorW.PrintWords Go.Proofs.YtdambnclbpipdaaGreatDoor.Va
theorem ints_of_array {H : Type} {enc : TypeId × Value → H} {P : Program} {w : World} {base : Nat} {sp : Nat → Bool} {held : Bool} {fuel : Nat} {t e : TypeId} {k : IntKind} {n : Nat} {cs : List Value} {l : List Int} {p : List MemPlace}
    (ht : P.underlying t = some (.array n e)) (he : P.underlying e = some (.int k)) (hC : P.cellsOf e = 1) (hT : P.cellsOf t = n) (h : DataW.trod enc P w base sp held fuel t cs = some (.agg (l.map fun x => .lit (.int k x)), p)) : cs = nums k l := by
  obtain ⟨xs, m, -, hx, hl, hxl, hi⟩ := DataW.trod_array ht h
  obtain ⟨hx1, -⟩ := Prod.mk.inj hx
  injection hx1 with hx1
  have hln : l.length = n := by have := congrArg List.length hx1; simpa [hxl] using this
  rw [hT] at hl
  unfold nums
  refine List.ext_getElem (by simp [hl, hln]) fun i h1 h2 => ?_
  have hin : i < n := by omega
  have hxi := hi i hin
  rw [hC, Nat.mul_one, List.getElem?_eq_getElem (by omega : i < xs.length)] at hxi
  obtain ⟨z, e1, e2, -⟩ := DataW.trod_int he hxi
  have e3 : (xs[i]'(by omega)).1 = DataW.lit (.int k (l[i]'(by omega))) := by
    have := congrArg (fun q => q[i]?) hx1
    simp [List.getElem?_eq_getElem (show i < l.length by omega), List.getElem?_eq_getElem (show i < xs.length by omega)] at this
    exact this.symm
  rw [e2] at e3
  injection e3 with e3
  injection e3 with _ e3
  have e4 : cs[i]'h1 = .int k z := by
    rw [List.drop_eq_getElem_cons h1, List.take_succ_cons, List.take_zero] at e1
    exact (List.cons.inj e1).1
  rw [e4, List.getElem_map, e3]
theorem triples_of_array {H : Type} {enc : TypeId × Value → H} {P : Program} {w : World} {base : Nat} {sp : Nat → Bool} {held : Bool} {fuel : Nat} {t e e3 : TypeId} {n : Nat} {cs : List Value} {l : List (Int × Int × Int)} {p : List MemPlace}
    (ht : P.underlying t = some (.array n e)) (he : P.underlying e = some (.array 3 e3)) (he3 : P.underlying e3 = some (.int .i32)) (hC3 : P.cellsOf e3 = 1) (hC : P.cellsOf e = 3) (hT : P.cellsOf t = n * 3) (h : DataW.trod enc P w base sp held fuel t cs = some (.agg (l.map fun x => .agg ([x.1, x.2.1, x.2.2].map fun y => .lit (.int .i32 y))), p)) : cs = cells3 l := by
  obtain ⟨xs, m, -, hx, hl, hxl, hi⟩ := DataW.trod_array ht h
  obtain ⟨hx1, -⟩ := Prod.mk.inj hx
  injection hx1 with hx1
  have hln : l.length = n := by have := congrArg List.length hx1; simpa [hxl] using this
  rw [hT] at hl
  have key : ∀ i (hin : i < l.length), (cs.drop (i * 3)).take 3 = nums .i32 [l[i].1, l[i].2.1, l[i].2.2] := by
    intro i hin
    have hxi := hi i (by omega)
    rw [hC, List.getElem?_eq_getElem (by omega : i < xs.length)] at hxi
    have e3' : (xs[i]'(by omega)).1 = DataW.agg ([l[i].1, l[i].2.1, l[i].2.2].map fun y => .lit (.int .i32 y)) := by
      have := congrArg (fun q => q[i]?) hx1
      simp [List.getElem?_eq_getElem (show i < l.length by omega), List.getElem?_eq_getElem (show i < xs.length by omega)] at this
      exact this.symm
    rw [show xs[i]'(by omega) = ((xs[i]'(by omega)).1, (xs[i]'(by omega)).2) from rfl, e3'] at hxi
    exact ints_of_array he he3 hC3 hC hxi
  clear hi hx1 hx hxl ht h
  have go : ∀ (l : List (Int × Int × Int)) (cs : List Value), cs.length = l.length * 3 → (∀ i (hin : i < l.length), (cs.drop (i * 3)).take 3 = nums .i32 [l[i].1, l[i].2.1, l[i].2.2]) → cs = cells3 l := by
    intro l
    induction l with
    | nil => intro cs h1 _; exact List.eq_nil_of_length_eq_zero (by simpa using h1)
    | cons x r ih =>
      intro cs h1 h2
      have h0 := h2 0 (by simp)
      have hr := ih (cs.drop 3) (by rw [List.length_drop, h1]; simp; omega) (fun i hin => by
        have := h2 (i + 1) (by simp; omega)
        rw [List.drop_drop, show 3 + i * 3 = (i + 1) * 3 by omega]
        exact this)
      rw [Nat.zero_mul, List.drop_zero] at h0
      rw [← List.take_append_drop 3 cs, h0, hr]
      rfl
  exact go l cs (by omega) key
abbrev laid : List (String × DataW Unit) := [("trema/ucd.classes", Rows.laid_trema_ucd_classes), ("trema/ucd.pairs", Rows.laid_trema_ucd_pairs), ("trema/ucd.marks", Rows.laid_trema_ucd_marks)]
theorem d0 : (Rows.laid_trema_ucd_classes : DataW Unit) = .agg (clsT.map fun x => .agg ([x.1, x.2.1, x.2.2].map fun y => .lit (.int .i32 y))) := by kernel_rfl
theorem d1 : (Rows.laid_trema_ucd_pairs : DataW Unit) = .agg (prsT.map fun x => .agg ([x.1, x.2.1, x.2.2].map fun y => .lit (.int .i32 y))) := by kernel_rfl
theorem d2 : (Rows.laid_trema_ucd_marks : DataW Unit) = .agg (mksT.map fun y => .lit (.int .i32 y)) := by kernel_rfl
theorem door_met (os : Os) (args : Array Value) : laidMetH Tryz.prog laid ((World.doorLaid Tryz.prog 400 os).forCall (fun _ _ => 0) ⟨#[], args, []⟩).memory :=
  laidMetH_of_parts3 (fuel := 8) (laidMet_of_run' 8 (by kernel_rfl) (by kernel_rfl)) (by kernel_rfl) (by kernel_rfl)
theorem of_laid {W : World} (h : laidMetH Tryz.prog laid W) : G W := by
  rw [MakeChecks.laidMetH_plain _ _ _ (by kernel_rfl)] at h
  obtain ⟨ps, ⟨g0, t0, cs0, f0, p0, q0, hg0, ht0, hv0, hd0, ⟨g1, t1, cs1, f1, p1, q1, hg1, ht1, hv1, hd1, ⟨g2, t2, cs2, f2, p2, q2, hg2, ht2, hv2, hd2, _, _⟩, _⟩, _⟩, _, _⟩ := h
  obtain rfl := Option.some.inj ((show Tryz.prog.globalNamed "trema/ucd.classes" = some 0 by kernel_rfl).symm.trans hg0)
  obtain rfl := Option.some.inj ((show Tryz.prog.globalNamed "trema/ucd.pairs" = some 1 by kernel_rfl).symm.trans hg1)
  obtain rfl := Option.some.inj ((show Tryz.prog.globalNamed "trema/ucd.marks" = some 2 by kernel_rfl).symm.trans hg2)
  obtain rfl := Option.some.inj ((show (Tryz.prog.globals[0]?).map (·.type) = some 237 by kernel_rfl).symm.trans ht0)
  obtain rfl := Option.some.inj ((show (Tryz.prog.globals[1]?).map (·.type) = some 238 by kernel_rfl).symm.trans ht1)
  obtain rfl := Option.some.inj ((show (Tryz.prog.globals[2]?).map (·.type) = some 244 by kernel_rfl).symm.trans ht2)
  rw [d0] at hd0
  rw [d1] at hd1
  rw [d2] at hd2
  have c0 := triples_of_array Tryz.underlying237 Tryz.underlying236 Tryz.underlying21 (by kernel_rfl) (by kernel_rfl) (by kernel_rfl) hd0
  have c1 := triples_of_array Tryz.underlying238 Tryz.underlying236 Tryz.underlying21 (by kernel_rfl) (by kernel_rfl) (by kernel_rfl) hd1
  have c2 := ints_of_array Tryz.underlying244 Tryz.underlying21 (by kernel_rfl) (by kernel_rfl) hd2
  refine ⟨fun j v hv => ?_, fun j v hv => ?_, fun j v hv => ?_⟩
  · have := World.var?_cell hg0 hv0 j
    rw [← Array.getElem?_toList, c0, hv] at this
    simpa using this
  · have := World.var?_cell hg1 hv1 j
    rw [← Array.getElem?_toList, c1, hv] at this
    simpa using this
  · have := World.var?_cell hg2 hv2 j
    rw [← Array.getElem?_toList, c2, hv] at this
    simpa using this
end Go.Proofs.YtdambnclbpipdaaGreatDoor.Lv
namespace Go.Proofs.YtdambnclbpipdaaGreatDoor.memRuns
open Go.ChangeShapes Go.WideShapes Go.ChangeAt Go.RowKit
open Go.ChangeMaps (open_string shut_string)
set_option linter.unusedVariables false
set_option linter.unusedSimpArgs false
theorem own : ownKnob Tryz.prog.godebug = none := by kernel_rfl
theorem laidOut : laidOutB Tryz.prog = true := by kernel_rfl
set_option maxRecDepth 100000 in
theorem contract (H : Type) (enc : TypeId × Value → H) (W : World) (base : Nat) (args : Array Value) (ds gs : List (DataW H)) (before : List MemPlace)
    (hval0 : ∀ (j : Nat) t v, Tryz.f8.params[j]? = some t → args[j]? = some v → Value.okWide Tryz.prog W .any base t v)
    (hW : DataW.Whole enc Tryz.prog Tryz.f8.params.toList Rows.memRunsSpec.vars false W args.toList ds gs before)
    (hL : laidMetH Tryz.prog Lv.laid W)
    (hsz0 : (DataW.weightsEach Tryz.prog (Tryz.f8.params.toList ++ Rows.memRunsSpec.plain.varTypes Tryz.prog) (ds ++ gs)).all (· ≤ reachBytes) = true) :
    Calls Tryz.prog 8 args W fun e W' => ∃ v, e = .returned v ∧ Rows.memRunsSpec.post enc Tryz.prog Tryz.f8 false true false false W args v W' := by
  have hsz : (DataW.weightsEach Tryz.prog (Tryz.f8.params.toList ++ Rows.memRunsSpec.plain.varTypes Tryz.prog) (ds ++ gs)).all (· ≤ reachBytes) = true := hsz0
  have hval : ∀ (j : Nat) t v, Tryz.f8.params[j]? = some t → args[j]? = some v → Value.okWide Tryz.prog W .any base t v := hval0
  have hW' := hW
  obtain ⟨p, q, hA0, hV, rfl, hfz, hnd⟩ := hW
  have hA : DataW.TrodAll enc Tryz.prog W 0 (fun _ => true) true Tryz.f8.params.toList args.toList ds p := hA0
  rw [Tryz.params8] at hA hval hsz
  obtain ⟨v0, vs0, d0, ds0, p0, q0, hargs, rfl, rfl, h0, r0⟩ := trodAll_cons hA
  obtain ⟨v1, vs1, d1, ds1, p1, q1, rfl, rfl, rfl, h1, r1⟩ := trodAll_cons r0
  obtain ⟨rfl, rfl, rfl⟩ := trodAll_nil r1
  obtain rfl : args = #[v0, v1] := by cases args; simp_all
  obtain ⟨rfl, rfl⟩ := trodVars_none hV
  obtain ⟨a0, rfl, rfl, rfl, w0⟩ := open_int Tryz.underlying3 (hval 0 3 v0 rfl rfl) h0
  have k1 := h1
  have lt1 : ∀ x ∈ p1, x.block < W.heap.size := by obtain ⟨m, hm⟩ := k1; exact DataW.trod_lt m _ _ _ hm
  obtain ⟨A1, xs1, c1, rfl, hc1, hC1, hw1, hb1, hz1⟩ := Od.arg_slice Tryz.underlying22 (by kernel_rfl) Odo.opens_op (hval 1 22 v1 rfl rfl) h1
  clear hA0 hval0 hsz0
  have hk := Go.Proofs.YtdambnclbpipdaaGreatDoor.X.tremalaw16_MemRuns.pure a0 w0 xs1 hw1 (hz1 _ _ 1 _ hsz rfl rfl (by kernel_rfl))
  refine (Go.Proofs.YtdambnclbpipdaaGreatDoor.X.tremalaw16_MemRuns.calls a0 A1 c1 xs1 true W hC1 hc1 hk (Lv.of_laid hL)).mono fun e W' ⟨he, bel⟩ => ?_
  subst he
  exact ⟨_, rfl, _, _, _, [], _, [], hW', trodAll_mk1 (shut_bool Tryz.underlying4 _), (trodAll_cons_mk (shut_int Tryz.underlying3 w0) (trodAll_cons_mk (Below.trod laidOut (by kernel_rfl) (of_decide_eq_true (by kernel_rfl)) k1 bel lt1) trodAll_mk0)), rfl, bel.frame _, fun h => by cases h⟩
set_option maxRecDepth 100000 in
theorem lifted (os : Os) (started : os.Started) (H : Type) (enc : TypeId × Value → H) :
    ReturnsInHanded {} Tryz.checked os 8 .any (fun w args => (Rows.memRunsSpec.pre enc Tryz.prog Tryz.f8 [] false w args ∧ laidMetH Tryz.prog Lv.laid w) ∧ sizedMet enc Tryz.prog Tryz.f8 (OpenSpec.ofChange Rows.memRunsSpec) false w args) (Rows.memRunsSpec.post enc Tryz.prog Tryz.f8 false true false false) := by
  refine returnsInHanded_of_change_and (C := Tryz.checked) (X := fun w _ => laidMetH Tryz.prog Lv.laid w) (fun _ _ _ hh h => h.of_heap hh) own started (by kernel_rfl) Tryz.func8
    (ChangeSpec.witness_shaped (enc := enc) (C := Tryz.checked) (os := os) (X := fun w _ => laidMetH Tryz.prog Lv.laid w) false (World.doorLaid Tryz.prog 400 os) #[(.int .i64 0), (.slice none 0 0)] 8 rfl (World.shaped_of_RefB (by kernel_rfl) (by kernel_rfl)) (by kernel_rfl) (by kernel_rfl) (by kernel_rfl) (Lv.door_met os _)) ?_
  intro W base args ds gs before hval hW _ hsz hL _
  exact contract H enc W base args ds gs before hval hW hL hsz
theorem proved : Rows.MemRunsSaid :=
  OpenClaim.holds_of_wide 8 Tryz.f8 rfl rfl rfl rfl rfl rfl rfl ⟨rfl, rfl, rfl, rfl, rfl⟩ rfl rfl rfl rfl rfl (by kernel_rfl) Tryz.func8 (by kernel_rfl)
    (of_decide_eq_true (by kernel_rfl)) (by unfold Func.isWrapper; first | (rw [if_pos (by decide +kernel)]; kernel_rfl) | (rw [if_neg (by decide +kernel)]; exact ⟨rfl, rfl⟩))
    (fun os started H enc _ => lifted os started H enc)
end Go.Proofs.YtdambnclbpipdaaGreatDoor.memRuns
namespace Go.Proofs.YtdambnclbpipdaaGreatDoor
theorem memRuns_holds : Rows.MemRunsCardSaid :=
  Claim7.holds_tied_plain_at .later [] [.data, .data, .data] true (true, "79fd00f625278ef6f8ce176163703940014fb54cad070bf8face8d6ffa1bccf6") true
    memRuns.proved (fun _ h => by cases h) (by kernel_rfl) (fun _ h => by cases h) memRuns_row_tie rfl ⟨rfl, rfl⟩ (by kernel_rfl) rfl
    (fun f fn hf hfn => by
      obtain rfl : f = 8 := Option.some.inj ((show Tryz.prog.funcNamed "trema/tremalaw16.MemRuns" = some 8 by kernel_rfl).symm.trans hf) |>.symm
      obtain rfl : fn = Tryz.f8 := (Option.some.inj (Tryz.func8.symm.trans hfn)).symm
      exact ⟨by kernel_rfl, fun j t ht => by
        rw [Tryz.params8] at ht
        have hm : t ∈ [3, 22] := by simpa using Array.mem_of_getElem? ht
        have hall : ([3, 22].all fun u => !Tryz.prog.wantsStandIn u) = true := by kernel_rfl
        exact (show Tryz.prog.wantsStandIn t = false by simpa using List.all_eq_true.1 hall t hm)⟩)
    (by kernel_rfl)
#print axioms memRuns_holds
end Go.Proofs.YtdambnclbpipdaaGreatDoor
