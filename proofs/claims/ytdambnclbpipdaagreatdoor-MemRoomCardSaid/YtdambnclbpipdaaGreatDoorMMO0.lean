/-
  Several texts of this claim in one: what its law's proof uses.
-/
import Derived.Test.YtdambnclbpipdaaGreatDoorMMR6
import Derived.Test.YtdambnclbpipdaaGreatDoorMMR0
import Derived.Test.YtdambnclbpipdaaGreatDoorRows
import Derived.Test.YtdambnclbpipdaaGreatDoorMMR1
import Derived.Test.YtdambnclbpipdaaGreatDoorTie
import Derived.Test.YtdambnclbpipdaaGreatDoorCards
import Derived.WalkKit
import Derived.ProofKit
import Derived.OpenShut
import Derived.ShutString
import Derived.ChangeOld
import Derived.Below
import Derived.SizedLaws
import Derived.JoinedCond
import Derived.SevenTiedAt
import Derived.LaidMore
import Derived.Stop.Joined
import Derived.Deep.DeepHandedRow
import Derived.Deep.DeepWitnessRowRef
namespace Go.Proofs.YtdambnclbpipdaaGreatDoor.Lmo
set_option linter.unusedVariables false
set_option linter.unusedSimpArgs false
open Go.Proofs.YtdambnclbpipdaaGreatDoor.Ux (Bytes)
open Go.RowKit Go.Maps Go.Proofs.YtdambnclbpipdaaGreatDoorW.PrintWords Go.Proofs.YtdambnclbpipdaaGreatDoorW.PrintLast Go.Proofs.YtdambnclbpipdaaGreatDoorW.PrintMore Go.Proofs.YtdambnclbpipdaaGreatDoor.Hp Go.Proofs.YtdambnclbpipdaaGreatDoor.Fm Go.Proofs.YtdambnclbpipdaaGreatDoor.X Go.Proofs.YtdambnclbpipdaaGreatDoor.Va Go.Proofs.YtdambnclbpipdaaGreatDoor.Ma Go.Proofs.YtdambnclbpipdaaGreatDoor.Mb Go.Proofs.YtdambnclbpipdaaGreatDoor.Mc Go.Proofs.YtdambnclbpipdaaGreatDoor.Md Go.Proofs.YtdambnclbpipdaaGreatDoor.Me Go.Proofs.YtdambnclbpipdaaGreatDoor.Mi Go.Proofs.YtdambnclbpipdaaGreatDoor.Mk Go.Proofs.YtdambnclbpipdaaGreatDoor.Mn Go.Proofs.YtdambnclbpipdaaGreatDoor.Mv Go.Proofs.YtdambnclbpipdaaGreatDoor.Mw Go.Proofs.YtdambnclbpipdaaGreatDoor.Sga
structure Room (S : Ix) (K : Int → Bool) (n m : Nat) : Prop where
  at_ : ∀ k, (atE S.L k).isSome = K k
  len : S.L.length = n
  num : 0 ≤ S.num ∧ S.num ≤ m
  runs : S.runs ≤ m
  dead : S.dead ≤ m
theorem none_of {o : Option En} (h : o.isSome = false) : o = none := by cases o <;> simp_all
theorem add_zero {S : Ix} {id : Int} {b : List Int} (h : addE S id b = 0) : (atE S.L id).isSome = false ∧ b.length ≤ 65536 ∧ wer b = 0 ∧ S.L.length ≠ 256 := by
  unfold addE at h
  split at h
  · cases h
  · split at h
    · cases h
    · split at h
      · cases h
      · split at h
        · cases h
        · rename_i h1 h2 h3 h4
          exact ⟨by simpa using h3, by omega, h, h4⟩
theorem add_ok {S : Ix} {K : Int → Bool} {n m : Nat} (h : Room S K n m) {id : Int} {b : List Int} (hid : 0 ≤ id ∧ id ≤ 2147483647) (hb : b.length ≤ 65536) (hk : K id = false) (hn : n ≠ 256) (hw : wer b = 0) : addE S id b = 0 := by
  unfold addE
  rw [if_neg (by omega), if_neg (by omega), if_neg (by rw [h.at_, hk]; decide), if_neg (by rw [h.len]; exact hn), hw]
theorem add_full {S : Ix} {K : Int → Bool} {m : Nat} (h : Room S K 256 m) {id : Int} {b : List Int} (hid : 0 ≤ id ∧ id ≤ 2147483647) (hb : b.length ≤ 65536) (hk : K id = false) : addE S id b = 11 := by
  unfold addE
  rw [if_neg (by omega), if_neg (by omega), if_neg (by rw [h.at_, hk]; decide), if_pos h.len]
theorem add_there {S : Ix} {K : Int → Bool} {n m : Nat} (h : Room S K n m) {id : Int} {b : List Int} (hid : 0 ≤ id ∧ id ≤ 2147483647) (hb : b.length ≤ 65536) (hk : K id = true) : addE S id b = 9 := by
  unfold addE
  rw [if_neg (by omega), if_neg (by omega), if_pos (by rw [h.at_, hk])]
theorem add_not {S : Ix} {id : Int} {b : List Int} (h : addE S id b ≠ 0) : addX S id b = S := by unfold addX; rw [if_neg h]
theorem room_add {S : Ix} {K : Int → Bool} {n m : Nat} (h : Room S K n m) {id : Int} {b : List Int} (h0 : addE S id b = 0) : Room (addX S id b) (fun k => decide (k = id) || K k) (n + 1) (m + 1) := by
  obtain ⟨hn, -, -, -⟩ := add_zero h0
  have e1 : ∀ k, (atE (layX S id b).L k).isSome = (decide (k = id) || K k) := by
    intro k
    show (atE (insE ⟨id, 0, b⟩ S.L) k).isSome = _
    rw [at_ins _ _ _ (none_of hn)]
    by_cases hk : k = id
    · simp [hk]
    · rw [if_neg (show ¬ k = (En.mk id 0 b).id from hk), h.at_, decide_eq_false hk, Bool.false_or]
  have e2 : (layX S id b).L.length = n + 1 := by show (insE _ S.L).length = _; rw [len_ins, h.len]
  have h1 := h.num
  have h2 := h.runs
  have h3 := h.dead
  unfold addX
  rw [if_pos h0]
  split
  · refine ⟨fun k => ?_, ?_, ?_, ?_, ?_⟩
    · show (atE (toRun _ _) k).isSome = _
      unfold toRun
      rw [at_map _ (fun e => by split <;> rfl), Option.isSome_map, e1]
    · show (toRun _ _).length = _
      unfold toRun
      rw [List.length_map, e2]
    · show 0 ≤ S.num + 1 ∧ S.num + 1 ≤ ((m + 1 : Nat) : Int); omega
    · show S.runs + 1 ≤ m + 1; omega
    · show S.dead ≤ m + 1; omega
  · exact ⟨e1, e2, by show 0 ≤ S.num ∧ S.num ≤ ((m + 1 : Nat) : Int); omega, by show S.runs ≤ m + 1; omega, by show S.dead ≤ m + 1; omega⟩
theorem room_del {S : Ix} {K : Int → Bool} {n m : Nat} (h : Room S K (n + 1) m) (hs : Srt S.L) {id : Int} (hk : K id = true) : Room (delX S id) (fun k => !decide (k = id) && K k) n (m + 1) := by
  have hi := h.at_ id
  rw [hk] at hi
  obtain ⟨e, he⟩ := Option.isSome_iff_exists.1 hi
  have hl := (len_del hs he).1
  have h0 := h.len
  have h1 := h.num
  have h2 := h.runs
  have h3 := h.dead
  unfold delX
  rw [he]
  refine ⟨fun k => ?_, ?_, ?_, ?_, ?_⟩
  · show (atE (delE id S.L) k).isSome = _
    rw [at_del]
    by_cases hk2 : k = id
    · simp [hk2]
    · rw [if_neg hk2, h.at_]; simp [hk2]
  · show (delE id S.L).length = n; omega
  · show 0 ≤ S.num ∧ S.num ≤ ((m + 1 : Nat) : Int); omega
  · show S.runs ≤ m + 1; omega
  · show (if e.run = 0 then S.dead else S.dead + 1) ≤ m + 1
    split <;> omega
theorem Room.as {S : Ix} {K K' : Int → Bool} {n m : Nat} (h : Room S K n m) (hk : ∀ k, K k = K' k) : Room S K' n m := ⟨fun k => (h.at_ k).trans (hk k), h.len, h.num, h.runs, h.dead⟩
theorem wer0 : wer [] = 0 := by kernel_rfl
theorem flush_ok (f : Int) : ∃ F : Int, wrap64 (1 + wrap64 ((IntKind.u64.wrap f).tmod 256)) = F ∧ 1 ≤ F ∧ F ≤ 256 := by
  have e : IntKind.u64.wrap f = f % 18446744073709551616 := by simp [IntKind.wrap, IntKind.bits, IntKind.signed]
  have h1 : 0 ≤ IntKind.u64.wrap f := by rw [e]; exact Int.emod_nonneg _ (by decide)
  have h2 := Int.tmod_lt_of_pos (IntKind.u64.wrap f) (show (0 : Int) < 256 by decide)
  have h3 := Int.tmod_nonneg (256 : Int) h1
  refine ⟨_, rfl, ?_⟩
  unfold wrap64
  omega
theorem room0 (F : Int) : Room ⟨F, [], 0, 0, 0⟩ (fun _ => false) 0 0 := ⟨fun k => rfl, rfl, ⟨Int.le_refl _, Int.le_refl _⟩, Nat.le_refl _, Nat.le_refl _⟩
theorem idx_srt {w0 w : World} {L : List Th} {g : Nat} {S : Ix} (h : Sep w0 L w) (i : Nat) (hi : L[i]? = some (idxT g w0.heap.size S)) : Srt S.L := by
  obtain ⟨o1, o2, ⟨bm, dm, rv, Db, Dd, RS, ad, k⟩, -⟩ := sep_idx h i hi
  exact k.good.srt
theorem grow (k : Int) (i : Nat) : (decide (k = (i : Int)) || decide (0 ≤ k ∧ k < (i : Int))) = decide (0 ≤ k ∧ k < ((i + 1 : Nat) : Int)) := by
  by_cases hk : k = (i : Int)
  · rw [decide_eq_true hk, Bool.true_or, decide_eq_true (by omega)]
  · rw [decide_eq_false hk, Bool.false_or]
    exact decide_eq_decide.2 (by omega)
theorem byte_of {d : Int} (h : (Lit.int .u8 d).wf = true) : 0 ≤ d ∧ d < 256 := by
  have := Ot.wf_bytes (xs := [d]) (fun x hx => by rw [List.mem_singleton.1 hx]; exact h) d (by simp)
  omega
theorem wf64 {d : Int} (h0 : 0 ≤ d) (h1 : d < 256) : (Lit.int .i64 d).wf = true := by
  have a : IntKind.i64.min = -9223372036854775808 := by rfl
  have b : IntKind.i64.max = 9223372036854775807 := by rfl
  simp only [Lit.wf, a, b, Bool.and_eq_true, decide_eq_true_eq]
  omega
set_option maxRecDepth 100000 in
set_option maxHeartbeats 8000000 in
theorem memRoomP (w : World) (hG : G w) (f : Int) (hf : (Lit.int .i64 f).wf = true) (A : Option Addr) (n c : Nat) (b : List Int) (hC : KB.C w A n b) (hn : n = b.length) (hc : n ≤ c) (hB : Bytes b) (d : Int) (hd : (Lit.int .u8 d).wf = true) :
    Calls Tryz.prog 4 #[.int .i64 f, .slice A n c, .int .u8 d] w fun e w' => e = .returned (.bool true) ∧ Below w.heap.size w w' := by
  have HG := Aside0.mk hG
  have HC := Aside0.mk hC
  have HN := Aside0.mk hn
  have HK := Aside0.mk hc
  have HB := Aside0.mk hB
  have HD := Aside0.mk hd
  have HF := Aside0.mk hf
  clear hG hC hn hc hB hd hf
  go_enter Tryz.func4, Tryz.ntmps4
  obtain ⟨F, hF, hF1, hF2⟩ := flush_ok f
  have hR0 := Aside0.mk (room0 F)
  obtain ⟨S0, hS0⟩ : ∃ S : Ix, Ix.mk F [] 0 0 0 = S := ⟨_, rfl⟩
  rw [hS0] at hR0
  have h0 : addE S0 0 b ≠ 0 → S0.L.length = 0 := by intro _; rw [← hS0]; rfl
  go_upto_region 4 with (first
    | (go_at_call 15; refine (memFixedP w HG.out).mono ?_; rintro e w1 ⟨rfl, p1⟩; have S1 := Aside0.mk (Sep.start p1); clear p1)
    | (go_at_call 16; rw [hF]; refine (NewIx S1.out F hF1 hF2).mono ?_; rintro e w2 ⟨g, rfl, p1⟩; rw [hS0] at p1; have S2 := Aside0.mk p1; clear p1 S1))
  have n0 : S0.num ≤ 1000000000000000000 := by rw [← hS0]; show (0 : Int) ≤ _; decide
  have r0 : S0.runs ≤ 7000000000000 := by rw [← hS0]; show (0 : Nat) ≤ _; decide
  clear hS0 hF hF1 hF2
  obtain ⟨E0, hE0⟩ : ∃ E, addE S0 0 b = E := ⟨_, rfl⟩
  obtain ⟨S3, hS3⟩ : ∃ E, addX S0 0 b = E := ⟨_, rfl⟩
  by_cases hz : E0 = 0
  · subst hz
    have HZ := Aside0.mk (add_zero hE0)
    have HR1 := Aside0.mk ((room_add hR0.out hE0).as (K' := fun k => decide (0 ≤ k ∧ k < ((1 : Nat) : Int))) (fun k => by by_cases hk : k = 0 <;> simp [hk] <;> omega))
    rw [hS3] at HR1
    clear h0
    go_upto_region 6 with (first
      | (go_at_call 17; refine (AddIx HG.out S2.out 0 rfl n0 r0 0 A n c b (Kd.C_below HC.out S2.out.below) HN.out HK.out HB.out 0 hE0 S3 hS3).mono ?_; rintro e w3 ⟨rfl, p1⟩; have T1 := Aside0.mk p1; clear p1 S2))
    go_wp2
    obtain ⟨m, hm⟩ : ∃ m : Nat, m = 256 := ⟨_, rfl⟩
    go_loopw [9] (fun v wr => ∃ (i : Nat) (S : Ix), v = .int .i64 i ∧ i ≤ 256 ∧ 1 ≤ i ∧ Aside0 (Sep w [idxT g w.heap.size S] wr) ∧ Aside0 (Room S (fun k => decide (0 ≤ k ∧ k < (i : Int))) i i)) (fun v _ => m - (intOf v).toNat)
    case atStart => exact ⟨1, S3, rfl, by decide, Nat.le_refl _, T1, HR1⟩
    case round =>
      obtain ⟨i, S, rfl, hi, hi1, HS, HI⟩ := hrel
      clear T1 HR1 hS3 hE0 hR0
      have nn : S.num ≤ 1000000000000000000 := by have := HI.out.num; omega
      have rr : S.runs ≤ 7000000000000 := by have := HI.out.runs; omega
      by_cases hlt : i < 256
      · have hd : decide ((i : Int) < 256) = true := decide_eq_true (by omega)
        have hd2 : decide (i < 256) = true := decide_eq_true hlt
        have hwi : wrap64 ((i : Int) + 1) = (i : Int) + 1 := by unfold wrap64; omega
        have he := add_ok HI.out (id := (i : Int)) (b := []) (by omega) (by simp) (decide_eq_false (by omega)) (by omega) wer0
        have HR2 := Aside0.mk ((room_add HI.out he).as (K' := fun k => decide (0 ≤ k ∧ k < ((i + 1 : Nat) : Int))) (fun k => grow k i))
        obtain ⟨S', hS'⟩ : ∃ E, addX S (i : Int) [] = E := ⟨_, rfl⟩
        rw [hS'] at HR2
        go_wp2_with (first
          | (go_at_call 17; refine (AddIx HG.out HS.out 0 rfl nn rr (i : Int) none 0 0 [] (Kd.C_nil KB _) rfl (Nat.le_refl _) (fun x hx => by cases hx) 0 he S' hS').mono ?_; rintro e w4 ⟨rfl, p1⟩; have T2 := Aside0.mk p1; clear p1))
        go_roundw
        case rel => exact ⟨i + 1, S', by go_num, by omega, by omega, T2, HR2⟩
        case measure => exact less_ rfl (show i < m by omega)
      · have hi2 : i = 256 := by omega
        have hd : decide ((i : Int) < 256) = false := decide_eq_false (by omega)
        have hd2 : decide (i < 256) = false := decide_eq_false hlt
        rw [hi2] at HI
        have e1 := add_full HI.out (id := 256) (b := []) (by decide) (by simp) (by decide)
        have e2 := add_there HI.out (id := 5) (b := []) (by decide) (by simp) (by decide)
        have x1 : addX S 256 [] = S := add_not (by rw [e1]; decide)
        have x2 : addX S 5 [] = S := add_not (by rw [e2]; decide)
        have T2 := HS
        clear HS hi hi1 hlt hi2 hm
        go_upto_region 13 with (first
          | (go_at_call 17; refine (AddIx HG.out T2.out 0 rfl nn rr 256 none 0 0 [] (Kd.C_nil KB _) rfl (Nat.le_refl _) (fun x hx => by cases hx) 11 e1 S x1).mono ?_; rintro e w5 ⟨rfl, p1⟩; have T3 := Aside0.mk p1; clear p1 T2)
          | (go_at_call 17; refine (AddIx HG.out T3.out 0 rfl nn rr 5 none 0 0 [] (Kd.C_nil KB _) rfl (Nat.le_refl _) (fun x hx => by cases hx) 9 e2 S x2).mono ?_; rintro e w6 ⟨rfl, p1⟩; have T4 := Aside0.mk p1; clear p1 T3)
          | (go_at_call 19; refine (DocsIx T4.out 0 rfl nn 256 HI.out.len).mono ?_; rintro e w11 ⟨A11, c11, rfl, p1⟩; have T5 := Aside0.mk (Sep.init p1); clear p1 T4))
        clear e1 e2 x1 x2
        obtain ⟨hb0, hb1⟩ := byte_of HD.out
        have hwd : wrap64 d = d := by unfold wrap64; omega
        obtain ⟨S4, hS4⟩ : ∃ E, delX S d = E := ⟨_, rfl⟩
        obtain ⟨S5, hS5⟩ : ∃ E, addX S4 256 b = E := ⟨_, rfl⟩
        have q0 : (if (atE S.L d).isSome = true then (0 : Int) else 10) = 0 := if_pos (by rw [HI.out.at_]; exact decide_eq_true (by omega))
        have R4 := room_del HI.out (idx_srt T5.out 0 rfl) (id := d) (decide_eq_true (by omega))
        rw [hS4] at R4
        have q1 := add_ok R4 (id := 256) (b := b) (by decide) HZ.out.2.1 (by show (!decide ((256 : Int) = d) && decide (0 ≤ (256 : Int) ∧ (256 : Int) < ((256 : Nat) : Int))) = false; rw [show decide (0 ≤ (256 : Int) ∧ (256 : Int) < ((256 : Nat) : Int)) = false from by decide, Bool.and_false]) (by decide) HZ.out.2.2.1
        have R5 := room_add R4 q1
        rw [hS5] at R5
        have q2 := add_full R5 (id := d) (b := []) (by omega) (by simp) (by show (decide (d = 256) || (!decide (d = d) && _)) = false; rw [decide_eq_false (show ¬ d = 256 by omega), decide_eq_true (rfl : d = d)]; rfl)
        have x2 : addX S5 d [] = S5 := add_not (by rw [q2]; decide)
        have m4 : S4.num ≤ 1000000000000000000 := by have := R4.num; omega
        have m4r : S4.runs ≤ 7000000000000 := by have := R4.runs; omega
        have m5 : S5.num ≤ 1000000000000000000 := by have := R5.num; omega
        have m5r : S5.runs ≤ 7000000000000 := by have := R5.runs; omega
        have dd : S.dead ≤ 8000000000000 := by have := HI.out.dead; omega
        have hid : (Lit.int .i64 d).wf = true := wf64 (by omega) (by omega)
        have Q0 := Aside0.mk q0
        have HS4 := Aside0.mk hS4
        have Q1 := Aside0.mk q1
        have HS5 := Aside0.mk hS5
        have Q2 := Aside0.mk q2
        have X2 := Aside0.mk x2
        have LN := Aside0.mk R5.len
        clear q0 hS4 q1 hS5 q2 x2 R4 R5 HI
        go_wp2_with (first
          | (go_at_call 18; refine (DeleteIx T5.out 0 rfl nn dd d hid 0 Q0.out S4 HS4.out).mono ?_; rintro e w12 ⟨rfl, p1⟩; have T6 := Aside0.mk p1; clear p1 T5)
          | (go_at_call 17; refine (AddIx HG.out T6.out 0 rfl m4 m4r 256 A n c b (Kd.C_below HC.out T6.out.below) HN.out HK.out HB.out 0 Q1.out S5 HS5.out).mono ?_; rintro e w13 ⟨rfl, p1⟩; have T7 := Aside0.mk p1; clear p1 T6)
          | (go_at_call 17; refine (AddIx HG.out T7.out 0 rfl m5 m5r d none 0 0 [] (Kd.C_nil KB _) rfl (Nat.le_refl _) (fun x hx => by cases hx) 11 Q2.out S5 X2.out).mono ?_; rintro e w14 ⟨rfl, p1⟩; have T8 := Aside0.mk p1; clear p1 T7)
          | (go_at_call 19; refine (DocsIx T8.out 0 rfl m5 256 LN.out).mono ?_; rintro e w15 ⟨A15, c15, rfl, p1⟩; have T9 := Aside0.mk p1.below; clear p1 T8))
        go_ret
        exact ⟨rfl, T9.out⟩
  · have hl := h0 (by rw [hE0]; exact hz)
    have hx : addX S0 0 b = S0 := add_not (by rw [hE0]; exact hz)
    have e0 : (E0 == (0 : Int)) = false := by simpa using hz
    have e1 : (E0 != (0 : Int)) = true := by simpa using hz
    have e2 : decide (E0 = (0 : Int)) = false := decide_eq_false hz
    have HL := Aside0.mk hl
    clear hz h0 hl hS3
    go_wp2_with (first
      | (go_at_call 17; refine (AddIx HG.out S2.out 0 rfl n0 r0 0 A n c b (Kd.C_below HC.out S2.out.below) HN.out HK.out HB.out E0 hE0 S0 hx).mono ?_; rintro e w3 ⟨rfl, p1⟩; have T1 := Aside0.mk p1; clear p1 S2)
      | (go_at_call 19; refine (DocsIx T1.out 0 rfl n0 0 HL.out).mono ?_; rintro e w4 ⟨A4, c4, rfl, p1⟩; have T2 := Aside0.mk p1.below; clear p1 T1))
    go_ret
    exact ⟨rfl, T2.out⟩
end Go.Proofs.YtdambnclbpipdaaGreatDoor.Lmo
namespace Go.Proofs.YtdambnclbpipdaaGreatDoor.X
set_option linter.unusedVariables false
set_option linter.unusedSimpArgs false
open Go.RowKit Go.Proofs.YtdambnclbpipdaaGreatDoorW.PrintWords
open Classical in
noncomputable def tremalaw16_MemRoom.f (a : Int) (l : List Int) (d : Int) : Option Bool := if (Lit.int .i64 a).wf = true ∧ (∀ o ∈ l, (Lit.int .u8 o).wf = true) ∧ (Lit.int .u8 d).wf = true then some true else none
theorem tremalaw16_MemRoom.calls (a0 : Int) (A1 : Option Addr) (c1 : Nat) (l : List Int) (a2 : Int) (r : Bool) (w : World) (hr : Kd.C (Kd.int .u8) w A1 l.length l) (hc : l.length ≤ c1) (h : tremalaw16_MemRoom.f a0 l a2 = some r) (hG0 : Va.G w) :
  Calls Tryz.prog 4 #[.int .i64 a0, .slice A1 l.length c1, .int .u8 a2] w fun e w' => e = .returned (.bool r) ∧ Below w.heap.size w w' := by
  unfold tremalaw16_MemRoom.f at h
  split at h
  · rename_i hh
    cases Option.some.inj h
    exact Lmo.memRoomP w hG0 a0 hh.1 A1 l.length c1 l hr rfl hc (Ot.wf_bytes hh.2.1) a2 hh.2.2
  · cases h
theorem tremalaw16_MemRoom.pure (a : Int) (w0 : (Lit.int .i64 a).wf = true) (xs : List Int) (hw : ∀ x ∈ xs, (Lit.int .u8 x).wf = true) (hz : xs.length * 1 ≤ 140737488351232) (d : Int) (w2 : (Lit.int .u8 d).wf = true) : tremalaw16_MemRoom.f a xs d = some true := by
  unfold tremalaw16_MemRoom.f
  rw [if_pos ⟨w0, hw, w2⟩]
end Go.Proofs.YtdambnclbpipdaaGreatDoor.X
namespace Go.Proofs.YtdambnclbpipdaaGreatDoor.memRoom
open Go.ChangeShapes Go.WideShapes Go.ChangeAt Go.RowKit
open Go.ChangeMaps (open_string shut_string)
set_option linter.unusedVariables false
set_option linter.unusedSimpArgs false
theorem own : ownKnob Tryz.prog.godebug = none := by kernel_rfl
theorem laidOut : laidOutB Tryz.prog = true := by kernel_rfl
set_option maxRecDepth 100000 in
theorem contract (H : Type) (enc : TypeId × Value → H) (W : World) (base : Nat) (args : Array Value) (ds gs : List (DataW H)) (before : List MemPlace)
    (hval0 : ∀ (j : Nat) t v, Tryz.f4.params[j]? = some t → args[j]? = some v → Value.okWide Tryz.prog W .any base t v)
    (hW : DataW.Whole enc Tryz.prog Tryz.f4.params.toList Rows.memRoomSpec.vars false W args.toList ds gs before)
    (hL : laidMetH Tryz.prog Lv.laid W)
    (hsz0 : (DataW.weightsEach Tryz.prog (Tryz.f4.params.toList ++ Rows.memRoomSpec.plain.varTypes Tryz.prog) (ds ++ gs)).all (· ≤ reachBytes) = true) :
    Calls Tryz.prog 4 args W fun e W' => ∃ v, e = .returned v ∧ Rows.memRoomSpec.post enc Tryz.prog Tryz.f4 false true false false W args v W' := by
  have hsz : (DataW.weightsEach Tryz.prog (Tryz.f4.params.toList ++ Rows.memRoomSpec.plain.varTypes Tryz.prog) (ds ++ gs)).all (· ≤ reachBytes) = true := hsz0
  have hval : ∀ (j : Nat) t v, Tryz.f4.params[j]? = some t → args[j]? = some v → Value.okWide Tryz.prog W .any base t v := hval0
  have hW' := hW
  obtain ⟨p, q, hA0, hV, rfl, hfz, hnd⟩ := hW
  have hA : DataW.TrodAll enc Tryz.prog W 0 (fun _ => true) true Tryz.f4.params.toList args.toList ds p := hA0
  rw [Tryz.params4] at hA hval hsz
  obtain ⟨v0, vs0, d0, ds0, p0, q0, hargs, rfl, rfl, h0, r0⟩ := trodAll_cons hA
  obtain ⟨v1, vs1, d1, ds1, p1, q1, rfl, rfl, rfl, h1, r1⟩ := trodAll_cons r0
  obtain ⟨v2, vs2, d2, ds2, p2, q2, rfl, rfl, rfl, h2, r2⟩ := trodAll_cons r1
  obtain ⟨rfl, rfl, rfl⟩ := trodAll_nil r2
  obtain rfl : args = #[v0, v1, v2] := by cases args; simp_all
  obtain ⟨rfl, rfl⟩ := trodVars_none hV
  obtain ⟨a0, rfl, rfl, rfl, w0⟩ := open_int Tryz.underlying3 (hval 0 3 v0 rfl rfl) h0
  have k1 := h1
  have lt1 : ∀ x ∈ p1, x.block < W.heap.size := by obtain ⟨m, hm⟩ := k1; exact DataW.trod_lt m _ _ _ hm
  obtain ⟨A1, xs1, c1, rfl, hc1, hC1, hw1, hb1, hz1⟩ := Od.arg_slice Tryz.underlying28 (by kernel_rfl) (Od.opens_int Tryz.underlying5) (hval 1 28 v1 rfl rfl) h1
  obtain ⟨a2, rfl, rfl, rfl, w2⟩ := open_int Tryz.underlying5 (hval 2 5 v2 rfl rfl) h2
  clear hA0 hval0 hsz0
  have hk := Go.Proofs.YtdambnclbpipdaaGreatDoor.X.tremalaw16_MemRoom.pure a0 w0 xs1 hw1 (hz1 _ _ 1 _ hsz rfl rfl (by kernel_rfl)) a2 w2
  refine (Go.Proofs.YtdambnclbpipdaaGreatDoor.X.tremalaw16_MemRoom.calls a0 A1 c1 xs1 a2 true W hC1 hc1 hk (Lv.of_laid hL)).mono fun e W' ⟨he, bel⟩ => ?_
  subst he
  exact ⟨_, rfl, _, _, _, [], _, [], hW', trodAll_mk1 (shut_bool Tryz.underlying4 _), (trodAll_cons_mk (shut_int Tryz.underlying3 w0) (trodAll_cons_mk (Below.trod laidOut (by kernel_rfl) (of_decide_eq_true (by kernel_rfl)) k1 bel lt1) (trodAll_cons_mk (shut_int Tryz.underlying5 w2) trodAll_mk0))), rfl, bel.frame _, fun h => by cases h⟩
set_option maxRecDepth 100000 in
theorem lifted (os : Os) (started : os.Started) (H : Type) (enc : TypeId × Value → H) :
    ReturnsInHanded {} Tryz.checked os 4 .any (fun w args => (Rows.memRoomSpec.pre enc Tryz.prog Tryz.f4 [] false w args ∧ laidMetH Tryz.prog Lv.laid w) ∧ sizedMet enc Tryz.prog Tryz.f4 (OpenSpec.ofChange Rows.memRoomSpec) false w args) (Rows.memRoomSpec.post enc Tryz.prog Tryz.f4 false true false false) := by
  refine returnsInHanded_of_change_and (C := Tryz.checked) (X := fun w _ => laidMetH Tryz.prog Lv.laid w) (fun _ _ _ hh h => h.of_heap hh) own started (by kernel_rfl) Tryz.func4
    (ChangeSpec.witness_shaped (enc := enc) (C := Tryz.checked) (os := os) (X := fun w _ => laidMetH Tryz.prog Lv.laid w) false (World.doorLaid Tryz.prog 400 os) #[(.int .i64 0), (.slice none 0 0), (.int .u8 0)] 8 rfl (World.shaped_of_RefB (by kernel_rfl) (by kernel_rfl)) (by kernel_rfl) (by kernel_rfl) (by kernel_rfl) (Lv.door_met os _)) ?_
  intro W base args ds gs before hval hW _ hsz hL _
  exact contract H enc W base args ds gs before hval hW hL hsz
theorem proved : Rows.MemRoomSaid :=
  OpenClaim.holds_of_wide 4 Tryz.f4 rfl rfl rfl rfl rfl rfl rfl ⟨rfl, rfl, rfl, rfl, rfl⟩ rfl rfl rfl rfl rfl (by kernel_rfl) Tryz.func4 (by kernel_rfl)
    (of_decide_eq_true (by kernel_rfl)) (by unfold Func.isWrapper; first | (rw [if_pos (by decide +kernel)]; kernel_rfl) | (rw [if_neg (by decide +kernel)]; exact ⟨rfl, rfl⟩))
    (fun os started H enc _ => lifted os started H enc)
end Go.Proofs.YtdambnclbpipdaaGreatDoor.memRoom
namespace Go.Proofs.YtdambnclbpipdaaGreatDoor
theorem memRoom_holds : Rows.MemRoomCardSaid :=
  Claim7.holds_tied_plain_at .later [] [.data, .data, .data] true (true, "79fd00f625278ef6f8ce176163703940014fb54cad070bf8face8d6ffa1bccf6") true
    memRoom.proved (fun _ h => by cases h) (by kernel_rfl) (fun _ h => by cases h) memRoom_row_tie rfl ⟨rfl, rfl⟩ (by kernel_rfl) rfl
    (fun f fn hf hfn => by
      obtain rfl : f = 4 := Option.some.inj ((show Tryz.prog.funcNamed "trema/tremalaw16.MemRoom" = some 4 by kernel_rfl).symm.trans hf) |>.symm
      obtain rfl : fn = Tryz.f4 := (Option.some.inj (Tryz.func4.symm.trans hfn)).symm
      exact ⟨by kernel_rfl, fun j t ht => by
        rw [Tryz.params4] at ht
        have hm : t ∈ [3, 28, 5] := by simpa using Array.mem_of_getElem? ht
        have hall : ([3, 28, 5].all fun u => !Tryz.prog.wantsStandIn u) = true := by kernel_rfl
        exact (show Tryz.prog.wantsStandIn t = false by simpa using List.all_eq_true.1 hall t hm)⟩)
    (by kernel_rfl)
#print axioms memRoom_holds
end Go.Proofs.YtdambnclbpipdaaGreatDoor
