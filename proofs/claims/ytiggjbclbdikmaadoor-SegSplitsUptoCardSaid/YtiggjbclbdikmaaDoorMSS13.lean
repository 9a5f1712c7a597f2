/-
  Several texts of this claim in one: what its law's proof uses.
-/
import Derived.Test.YtiggjbclbdikmaaDoorMSS11
import Derived.Test.YtiggjbclbdikmaaDoorMSS2
import Derived.Test.YtiggjbclbdikmaaDoorMSS7
import Derived.Test.YtiggjbclbdikmaaDoorMSS12
import Derived.Test.YtiggjbclbdikmaaDoorMSS9
import Derived.Lib.SlBytesConst
import Derived.Test.YtiggjbclbdikmaaDoorMSS8
import Derived.Test.YtiggjbclbdikmaaDoorMSS4
import Derived.Deep.RegionHeld3
import Derived.Deep.DeepCutAuto
import Derived.BigQuiet
namespace Go.Proofs.YtiggjbclbdikmaaDoor.Ud
set_option linter.unusedVariables false
set_option linter.unusedSimpArgs false
open Go.RowKit Go.Proofs.YtiggjbclbdikmaaDoorW.PrintWords Go.Proofs.YtiggjbclbdikmaaDoor.Hp Go.Proofs.YtiggjbclbdikmaaDoor.X Go.Proofs.YtiggjbclbdikmaaDoor.Ux
theorem k72_KM {w w' : World} {base : Nat} {ok : Nat → Prop} (x : S75) (cs : List Value) (h : k75.K w x cs) : k75.M w' base ok x cs := by
  obtain rfl := k75_open h
  exact k75_mkM _ _ _ _
theorem full_len (b : List Int) : (full b).length ≤ b.length := by
  have := dc_len b 0
  unfold full rest1
  rw [List.length_append]
  split
  · simp; omega
  · rename_i h
    have : (dc b 0).2.1.length ≠ 0 := fun e => h (List.eq_nil_of_length_eq_zero e)
    simp; omega
def DecPost (w : World) (bs : List Int) (e : Ending) (w' : World) : Prop := ∃ A c, e = .returned (.slice A (full bs).length c) ∧ (full bs).length ≤ c ∧ Kd.R k75 TP w' w.heap.size (fun _ => True) (.slice A (full bs).length c) (full bs) ∧ Below w.heap.size w w'
set_option maxRecDepth 100000 in
set_option maxHeartbeats 2000000 in
theorem Decode (w : World) (A : Option Addr) (n c : Nat) (bs : List Int) (hb : ReadsInt w .u8 A n bs) (hB : Bytes bs) (hlen : n ≤ 1000000000) :
    Calls Tryd.prog 58 #[.slice A n c] w (DecPost w bs) := by
  have hbn := hb.1
  have HB := Aside0.mk hb
  have HBY := Aside0.mk hB
  have HBN := Aside0.mk hbn
  clear hb hB hbn
  go_enter Tryd.func58, Tryd.ntmps58
  go_wp2_with (first | (go_at_call 66; refine (New w).mono ?_; rintro e w1 ⟨g, rfl, p0, p1, p2⟩; have P0 := Aside0.mk p0; have P1 := Aside0.mk p1; have P2 := Aside0.mk p2; clear p0 p1 p2) | (go_at_call 70; go_must (refine (Write w1 g w.heap.size [] 0 _ A n c bs P1.out (HB.out.below P2.out) HBY.out (by simp; omega) (by omega)).mono ?_; rintro e w2 ⟨lv, M, rfl, q1, q2, q3, q4⟩; have Q1 := Aside0.mk q1; have Q2 := Aside0.mk q2; have Q3 := Aside0.mk q3; have Q4 := Aside0.mk q4; clear q1 q2 q3 q4)) | (go_at_call 72; go_must (refine (Close w2 g w.heap.size _ _ _ Q3.out).mono ?_; rintro e w3 ⟨lv2, rfl, r1, r2, r3⟩; obtain ⟨A2, c2, rfl, hc2, hC2⟩ := Kd.R_reads r1; have R1 := Aside0.mk hC2; have R3 := Aside0.mk r3; clear r1 r2 r3 hC2)) | (at_builtin; go_must (refine Kd.R_append_rows k75 (Rr := k75.K w3) (w0 := w3) w.heap.size rfl (.tmp 7) (.tmp 9) 72 TP (.agg #[.int .i32 0, .int .i64 0, .int .i64 0]) 24 rfl Tryd.underlying72 info_P rfl (by decide) (by decide) lv (dc bs 0).1 (rest1 (dc bs 0).2.1 (dc bs 0).2.2) A2 _ c2 (fun _ => True) (fun _ => False) rfl rfl ?ho R1.out (fun x cs h => k72_KM x cs h) (fun _ h => h.elim) (fun _ _ => trivial) (Below.refl _ _) ?hb ?hl ?hh)))
  case ho =>
    have hg := P1.out.lt.1
    have h1 := Kd.R_bound Q2.out
    exact Kd.R_mono (Kd.R_lower (R_chg h1 R3.out (fun k hk he => by have := hk.2.1; omega)) P2.out.size) (fun _ _ => trivial)
  case hb => have h1 := P2.out.size; have h2 := Q4.out.size; have h3 := R3.out.size; omega
  case hl =>
    have h1 := dc_len bs 0
    have h2 := dc_rest bs 0
    have h3 : (rest1 (dc bs 0).2.1 (dc bs 0).2.2).length ≤ 1 := by unfold rest1; split <;> simp
    have h4 := HBN.out
    omega
  case hh =>
    intro v1 w4 hR hb4 hg4 hat4
    have hfull : (dc bs 0).1 ++ rest1 (dc bs 0).2.1 (dc bs 0).2.2 = full bs := rfl
    rw [hfull] at hR
    obtain ⟨A5, c5, rfl, hc5, hC5⟩ := Kd.R_reads hR
    have HR := Aside0.mk hR
    have HB4 := Aside0.mk hb4
    clear hR hb4 hg4 hat4 hC5 hfull
    have hL := HR.out
    obtain ⟨L, hLL⟩ : ∃ L, L = (full bs).length := ⟨_, rfl⟩
    rw [← hLL]
    have HLL := Aside0.mk hLL
    clear hLL hL
    go_wp2
    go_ret
    have e := HLL.out
    subst e
    refine ⟨A5, c5, rfl, hc5, HR.out, ?_⟩
    have b2 : Below w.heap.size w w2 := Q4.out.below_of P2.out (fun b hb => by rw [hb]; exact P0.out)
    have b3 : Below w.heap.size w w3 := R3.out.below_of b2 (fun b hb => by rw [hb]; exact P0.out)
    exact b3.trans HB4.out
end Go.Proofs.YtiggjbclbdikmaaDoor.Ud
namespace Go.Proofs.YtiggjbclbdikmaaDoor.X
set_option linter.unusedVariables false
set_option linter.unusedSimpArgs false
open Go.RowKit Go.Proofs.YtiggjbclbdikmaaDoorW.PrintWords Go.Proofs.YtiggjbclbdikmaaDoorW.PrintLast Go.Proofs.YtiggjbclbdikmaaDoorW.PrintMore Go.Proofs.YtiggjbclbdikmaaDoor.Ux Go.Proofs.YtiggjbclbdikmaaDoor.Ud
def runesOf (s : ByteArray) : List Int := (full (bytesOf s)).map (·.f0)
def norm_Runes.f (a0 : ByteArray) : Option (List Int) := if a0.size ≤ 1000000000 then some (runesOf a0) else none
theorem bytesOf_Bytes (s : ByteArray) : Bytes (bytesOf s) := fun x hx => by
  unfold bytesOf at hx
  obtain ⟨b, _, rfl⟩ := List.mem_map.1 hx
  have := b.toNat_lt
  omega
set_option maxHeartbeats 8000000 in
set_option maxRecDepth 100000 in
theorem norm_Runes.calls (a0 : ByteArray) (r : List Int) (w : World) (h : norm_Runes.f a0 = some r) :
    Calls Tryd.prog 27 #[.string a0] w fun e w' => ∃ v0_ : Value, e = .returned (v0_) ∧ Kd.R (Kd.int .i32) 21 w' w.heap.size (fun _ => True) v0_ r ∧ Below w.heap.size w w' := by
  unfold norm_Runes.f at h
  split at h
  case isFalse => exact absurd h (by simp)
  case isTrue hl =>
    have h := Option.some.inj h
    have HR := Aside0.mk h.symm
    have hl2 : a0.size ≤ 9223372036854775807 := by omega
    have HL := Aside0.mk hl
    have HL2 := Aside0.mk hl2
    clear h hl hl2
    have kb := fun W => print_bytes (P := Tryd.prog) 9 27 5 Tryd.underlying9 Tryd.underlying27 Tryd.underlying5 a0 W
    have HB := Aside0.mk (Below.refl w.heap.size w)
    go_enter Tryd.func27, Tryd.ntmps27
    go_wp2_with (first | (go_at_call 58; go_must (refine (Decode (Lib.bytesWorld w 5 a0) _ _ _ (bytesOf a0) (bytes_reads w 5 a0 HL2.out) (bytesOf_Bytes a0) HL.out).mono ?_; rintro e w1 ⟨A, c, rfl, p0, p1, p2⟩; have HC := Aside0.mk p0; have HO := Aside0.mk (Kd.R_lower p1 (bytes_below (Below.refl w.heap.size w) (Nat.le_refl _) 5 a0).size); have HB1 := Aside0.mk ((bytes_below (Below.refl w.heap.size w) (Nat.le_refl _) 5 a0).trans (p2.mono (bytes_below (Below.refl w.heap.size w) (Nat.le_refl _) 5 a0).size)); clear p0 p1 p2)))
    have hlen : (full (bytesOf a0)).length ≤ 1000000000 := Nat.le_trans (full_len _) (by rw [bytesOf_length]; exact HL.out)
    have HLN := Aside0.mk hlen
    obtain ⟨ps, hps⟩ : ∃ ps, ps = full (bytesOf a0) := ⟨_, rfl⟩
    rw [← hps] at HC HO HLN ⊢
    have HR2 := Aside0.mk (show r = ps.map (·.f0) by rw [HR.out, hps]; rfl)
    clear hps HR hlen
    go_loopw [3, 10] (fun v3 v10 w' => ∃ (i : Nat) (xs : List Int), v10 = .int .i64 i ∧ i ≤ ps.length ∧ Aside0 (xs = (ps.take i).map (·.f0)) ∧ Aside0 (Kd.R (Kd.int .i32) 21 w' w.heap.size (fun _ => True) v3 xs) ∧ Aside0 (Kd.R k75 75 w' w.heap.size (fun _ => True) (.slice A ps.length c) ps) ∧ Aside0 (Below w.heap.size w w')) (fun _ v10 _ => ps.length - (intOf v10).toNat)
    case atStart => exact ⟨0, [], rfl, Nat.zero_le _, ⟨by simp⟩, ⟨Kd.R_nil _ _ _ _ _⟩, HO, HB1⟩
    case round =>
      clear HO HB1
      obtain ⟨i, xs, rfl, hi, HX, HO_3, HO_4, HB1⟩ := hrel
      by_cases hlt : i < ps.length
      · have hd : decide ((i : Int) < (ps.length : Int)) = true := decide_eq_true (by omega)
        have hd2 : decide (i < ps.length) = true := decide_eq_true hlt
        obtain ⟨ad, rfl, h1, h2, h3⟩ := at_T75 (Kd.R_reads' HO_4.out).2.2 (i : Int) (by omega) (by omega)
        have hrd : rd_T75 ps (i : Int) = ps[i] := by unfold rd_T75; simp [List.getD_eq_getElem?_getD, List.getElem?_eq_getElem hlt]
        rw [hrd] at h1 h2 h3
        simp only [Int.toNat_natCast] at h1 h2 h3
        have hpl := HLN.out
        have hn0 : (0 : Int) ≤ (i : Int) := by omega
        have hn1 : (i : Int) < (ps.length : Int) := by omega
        obtain ⟨y, hy⟩ : ∃ y : List Int, y = xs ++ [ps[i].f0] := ⟨_, rfl⟩
        have HY := Aside0.mk hy
        have LM := Aside0.mk (show xs.length < 35184372088832 by have := HLN.out; rw [HX.out, List.length_map, List.length_take]; omega)
        have HXl := Aside0.mk (show y = (ps.take (i + 1)).map (·.f0) by rw [hy, HX.out, List.take_succ_eq_append_getElem hlt, List.map_append]; rfl)
        clear hy hrd
        go_wp2_with (first | (at_builtin; go_must (refine Kd.R_append (Kd.int .i32) (w0 := w) w.heap.size rfl (.tmp 14) (.tmp 17) 22 21 (.int .i32 0) 4 rfl Tryd.underlying22 info21 rfl (by decide) (by omega) u3 xs (ps[i].f0) [.int .i32 (ps[i].f0)] (fun _ => True) (fun _ => False) rfl (congrArg (fun k => Value.slice (some ⟨k, 0, none⟩) 1 1) (Array.size_push _).symm) ?aP (fun _ hk => hk.elim) ?aF ?aO ?aB ?aS ?aL ?_; (case aP => exact rfl); (case aB => exact (by repeat (first | (with_reducible first | exact HB1.out | apply below_alloc | apply pw_below_drewN | apply below_drew1) | exact HB1.out))); (case aF => exact (fun _ _ => trivial)); (case aO => exact (by (with_reducible repeat (first | apply Kd.R_alloc | apply Kd.R_drewN | apply Kd.R_drew)); exact HO_3.out)); (case aS => exact (below_size (by repeat (first | (with_reducible first | exact HB1.out | apply below_alloc | apply pw_below_drewN | apply below_drew1) | exact HB1.out)))); (case aL => have := LM.out; omega); intro v287 w8 ho hb hg hat; rw [← HY.out] at ho; have n0_ := Aside0.mk (Kd.R_over' (by (with_reducible repeat (first | apply Kd.R_alloc | apply Kd.R_drewN | apply Kd.R_drew)); exact HO_4.out) (Kd.R_typed (by (with_reducible repeat (first | apply Kd.R_alloc | apply Kd.R_drewN | apply Kd.R_drew)); exact HO_3.out)) (by decide) hg); have n1_ := Aside0.mk (hb); have n2_ := Aside0.mk (ho); clear HO_4; clear HB1; clear HO_3; have HO_4 := n0_; have HB1 := n1_; have HO288 := n2_; clear n0_ n1_ n2_; clear ho hb hg hat)))
        go_roundw
        case rel => exact ⟨i + 1, y, by first | go_num | (rw [show wrap64 ((i : Int) + 1) = ((i + 1 : Nat) : Int) by rw [wrap64_in] <;> omega]), by omega, HXl, HO288, HO_4, HB1⟩
        case measure => simp [intOf] <;> omega
      · have hd : decide ((i : Int) < (ps.length : Int)) = false := decide_eq_false (by omega)
        have hd2 : decide (i < ps.length) = false := decide_eq_false hlt
        go_wp2
        go_ret
        refine ⟨_, rfl, ?_, HB1.out⟩
        have h := HX.out
        rw [show i = ps.length by omega, List.take_length] at h
        rw [HR2.out, ← h]
        exact HO_3.out
end Go.Proofs.YtiggjbclbdikmaaDoor.X
namespace Go.Proofs.YtiggjbclbdikmaaDoor.X
open Go.RowKit Go.Proofs.YtiggjbclbdikmaaDoorW.PrintWords Go.Proofs.YtiggjbclbdikmaaDoorW.PrintLast Go.Proofs.YtiggjbclbdikmaaDoorW.PrintMore
attribute [local go_sem] max2_int min2_int max_two min_two max_three min_three max_four min_four   
set_option linter.unusedVariables false
set_option linter.unusedSimpArgs false
def norm_Text.f (k : Nat) (l0 : List Int) : Option (ByteArray) := (norm_Runes.f (strOfNums l0)).bind fun t225 => ((norm_Normal.f k t225).bind fun t228 => ((utf_Encode.f k t228).bind fun t231 => (some (strOfNums t231))))
theorem norm_Text.mono : ∀ a0 k, LeO (norm_Text.f k a0) (norm_Text.f (k + 1) a0) := by
 intro a0 k
 unfold norm_Text.f
 repeat' first
   | (with_reducible exact norm_Normal.mono _ _)
   | (with_reducible exact utf_Encode.mono _ _)
   | (with_reducible exact LeO.refl _)
   | (with_reducible exact LeO.none _)
   | (with_reducible refine LeO.ite ?_ ?_)
   | (with_reducible refine LeO.bind ?_ (fun _ => ?_))
   | exact norm_Normal.mono _ _
   | exact utf_Encode.mono _ _
   | exact LeO.none _
   | refine LeO.ite ?_ ?_
   | refine LeO.bind ?_ (fun _ => ?_)
set_option maxHeartbeats 8000000 in
set_option maxRecDepth 100000 in
theorem norm_Text.calls (k : Nat) (A0 : Option Addr) (c0 : Nat) (l0 : List Int) (r : ByteArray) (w : World) (hr0 : Kd.C (Kd.int .u8) w A0 l0.length l0) (hc0 : l0.length ≤ c0) (h : norm_Text.f k l0 = some r) (hG0 : Va.G w) :
  Calls Tryd.prog 25 #[.slice A0 l0.length c0] w fun e w' => e = .returned (.string r) ∧ Below w.heap.size w w' := by
 have HG := Aside0.mk hG0
 clear hG0
 have HR0 := Aside0.mk hr0
 have HC0 := Aside0.mk hc0
 clear hr0 hc0
 have HB := Aside0.mk (Below.refl w.heap.size w)
 have H : ((norm_Runes.f (strOfNums l0)).bind fun t225 => ((norm_Normal.f k t225).bind fun t228 => ((utf_Encode.f k t228).bind fun t231 => (some (strOfNums t231))))) = some r := h
 clear h
 replace H := Option.bind_eq_some_iff.mp H
 obtain ⟨t225, A20, H⟩ := H
 replace H : ((norm_Normal.f k t225).bind fun t228 => ((utf_Encode.f k t228).bind fun t231 => (some (strOfNums t231)))) = some r := H
 have A2 := Aside0.mk A20
 clear A20
 replace H := Option.bind_eq_some_iff.mp H
 obtain ⟨t228, A30, H⟩ := H
 replace H : ((utf_Encode.f k t228).bind fun t231 => (some (strOfNums t231))) = some r := H
 have A3 := Aside0.mk A30
 clear A30
 replace H := Option.bind_eq_some_iff.mp H
 obtain ⟨t231, A40, H⟩ := H
 replace H : (some (strOfNums t231)) = some r := H
 have A4 := Aside0.mk A40
 clear A40
 obtain rfl := Option.some.inj H
 have hcv5 := Kd.C_string (P := Tryd.prog) (A := A0) (c := c0) Tryd.underlying27 Tryd.underlying5 Tryd.underlying9 HR0.out
 go_enter Tryd.func25, Tryd.ntmps25
 go_wp2_with (first | ((with_reducible refine gate_callee (f := 27) rfl ?_); refine goesL_ (some 5) rfl rfl Tryd.func27 (by kernel_rfl) rfl #[.string (strOfNums l0)] rfl (by (try simp only [List.map_toArray, List.map_cons, List.map_nil]); first | done | rfl | (simp only [List.length_drop, List.length_take]; rfl)) ?_; (with_reducible refine (norm_Runes.calls (strOfNums l0) t225 _ A2.out).mono ?_); rintro e w6 ⟨v226, rfl, ho0, hb⟩; refine ⟨_, rfl, ?_⟩; have n0_ := Aside0.mk (Kd.R_lower ho0 (below_size (by repeat (first | (with_reducible first | exact HB.out | apply below_alloc | apply pw_below_drewN | apply below_drew1) | exact HB.out)))); have n1_ := Aside0.mk (below_step (by repeat (first | (with_reducible first | exact HB.out | apply below_alloc | apply pw_below_drewN | apply below_drew1) | exact HB.out)) hb); clear HB; have HO227 := n0_; have HB := n1_; clear n0_ n1_; (try clear hb); (try clear hb2); (try clear hk); (try clear hi); (try clear ho0); obtain ⟨Ao7, co7, eo7⟩ := Kd.R_slice HO227.out; subst eo7) | ((with_reducible refine gate_callee (f := 22) rfl ?_); refine goesL_ (some 6) rfl rfl Tryd.func22 (by kernel_rfl) rfl #[.slice Ao7 t225.length co7] rfl (by (try simp only [List.map_toArray, List.map_cons, List.map_nil]); first | done | rfl | (simp only [List.length_drop, List.length_take]; rfl)) ?_; (with_reducible refine (norm_Normal.calls k _ _ t225 t228 _ ?side1 ?side2 A3.out (by first | exact HG.out | exact Va.G.below HG.out (by repeat (first | (with_reducible first | exact HB.out | apply below_alloc | apply pw_below_drewN | apply below_drew1) | exact HB.out)))).mono ?_); (case side1 => repeat (first | exact (Kd.R_reads' HO227.out).2.2 | (with_reducible refine Kd.C_alloc ?_ _) | (with_reducible refine Kd.C_drewN ?_ _) | (with_reducible refine Kd.C_drew ?_))); (case side2 => exact (Kd.R_reads' HO227.out).2.1); rintro e w8 ⟨v229, rfl, ho0, hb⟩; refine ⟨_, rfl, ?_⟩; have n0_ := Aside0.mk (Kd.R_elder' (by (with_reducible repeat (first | apply Kd.R_alloc | apply Kd.R_drewN | apply Kd.R_drew)); exact HO227.out) (Kd.R_base ho0) hb); have n1_ := Aside0.mk (Kd.R_lower (Kd.R_new' ho0 (Kd.R_lt (by (with_reducible repeat (first | apply Kd.R_alloc | apply Kd.R_drewN | apply Kd.R_drew)); exact HO227.out))) (below_size (by repeat (first | (with_reducible first | exact HB.out | apply below_alloc | apply pw_below_drewN | apply below_drew1) | exact HB.out)))); have n2_ := Aside0.mk (below_step (by repeat (first | (with_reducible first | exact HB.out | apply below_alloc | apply pw_below_drewN | apply below_drew1) | exact HB.out)) hb); clear HO227; clear HB; have HO227 := n0_; have HO230 := n1_; have HB := n2_; clear n0_ n1_ n2_; (try clear hb); (try clear hb2); (try clear hk); (try clear hi); (try clear ho0); obtain ⟨Ao9, co9, eo9⟩ := Kd.R_slice HO230.out; subst eo9) | ((with_reducible refine gate_callee (f := 56) rfl ?_); refine goesL_ (some 7) rfl rfl Tryd.func56 (by kernel_rfl) rfl #[.slice Ao9 t228.length co9] rfl (by (try simp only [List.map_toArray, List.map_cons, List.map_nil]); first | done | rfl | (simp only [List.length_drop, List.length_take]; rfl)) ?_; (with_reducible refine (utf_Encode.calls k _ _ t228 t231 _ ?side1 ?side2 A4.out).mono ?_); (case side1 => repeat (first | exact (Kd.R_reads' HO230.out).2.2 | (with_reducible refine Kd.C_alloc ?_ _) | (with_reducible refine Kd.C_drewN ?_ _) | (with_reducible refine Kd.C_drew ?_))); (case side2 => exact (Kd.R_reads' HO230.out).2.1); rintro e w10 ⟨v232, rfl, ho0, hb⟩; refine ⟨_, rfl, ?_⟩; have n0_ := Aside0.mk (Kd.R_below (by (with_reducible repeat (first | apply Kd.R_alloc | apply Kd.R_drewN | apply Kd.R_drew)); exact HO227.out) hb); have n1_ := Aside0.mk (Kd.R_below (by (with_reducible repeat (first | apply Kd.R_alloc | apply Kd.R_drewN | apply Kd.R_drew)); exact HO230.out) hb); have n2_ := Aside0.mk (Kd.R_lower ho0 (below_size (by repeat (first | (with_reducible first | exact HB.out | apply below_alloc | apply pw_below_drewN | apply below_drew1) | exact HB.out)))); have n3_ := Aside0.mk (below_step (by repeat (first | (with_reducible first | exact HB.out | apply below_alloc | apply pw_below_drewN | apply below_drew1) | exact HB.out)) hb); clear HO227; clear HO230; clear HB; have HO227 := n0_; have HO230 := n1_; have HO233 := n2_; have HB := n3_; clear n0_ n1_ n2_ n3_; (try clear hb); (try clear hb2); (try clear hk); (try clear hi); (try clear ho0); have hcv11 := own_string (P := Tryd.prog) Tryd.underlying27 Tryd.underlying5 Tryd.underlying9 (Kd.own_of_R HO233.out)))
 go_ret
 exact ⟨by first | rfl | (simp [errW_none, errW_some] <;> rfl) | (simp [*, errW_none, errW_some] <;> rfl), by repeat (first | (with_reducible first | exact HB.out | apply below_alloc | apply pw_below_drewN | apply below_drew1) | exact HB.out)⟩
end Go.Proofs.YtiggjbclbdikmaaDoor.X
namespace Go.Proofs.YtiggjbclbdikmaaDoor.X
open Go.RowKit Go.Proofs.YtiggjbclbdikmaaDoorW.PrintWords Go.Proofs.YtiggjbclbdikmaaDoorW.PrintLast Go.Proofs.YtiggjbclbdikmaaDoorW.PrintMore
attribute [local go_sem] max2_int min2_int max_two min_two max_three min_three max_four min_four   
set_option linter.unusedVariables false
set_option linter.unusedSimpArgs false
def tremaref01_Runes.l0 : Nat → List Int → List (S75) → Int → Option (List Int)
 | 0, _, _, _ => none
 | k + 1, x3, x4, x5 => if x5 < (x4.length : Int) then (if 0 ≤ x5 then (if x3.length < 35184372088832 then (tremaref01_Runes.l0 k (x3 ++ [(rd_T75 x4 x5).f0]) x4 (wrap64 (x5 + 1))) else (none)) else (none)) else (some x3)
def tremaref01_Runes.f (k : Nat) (l0 : List Int) : Option (List Int) := (tremaref01_Decode.f k l0 false).bind fun t276 => (tremaref01_Runes.l0 k ([] : List Int) t276 0)
theorem tremaref01_Runes.mono_l : ∀ k, (∀ y0 y1 y2, LeO (tremaref01_Runes.l0 k y0 y1 y2) (tremaref01_Runes.l0 (k + 1) y0 y1 y2))
 | 0 => fun _ _ _ r h => by simp [tremaref01_Runes.l0] at h
 | k + 1 => by
  have ih0 := tremaref01_Runes.mono_l k
  ·intro y0 y1 y2
   unfold tremaref01_Runes.l0
   repeat' first
   | (with_reducible exact ih0 _ _ _)
   | (with_reducible exact tremaref01_Decode.mono _ _ _)
   | (with_reducible exact LeO.refl _)
   | (with_reducible exact LeO.none _)
   | (with_reducible refine LeO.ite ?_ ?_)
   | (with_reducible refine LeO.bind ?_ (fun _ => ?_))
   | exact ih0 _ _ _
   | exact tremaref01_Decode.mono _ _ _
   | exact LeO.none _
   | refine LeO.ite ?_ ?_
   | refine LeO.bind ?_ (fun _ => ?_)
theorem tremaref01_Runes.mono : ∀ a0 k, LeO (tremaref01_Runes.f k a0) (tremaref01_Runes.f (k + 1) a0) := by
 intro a0 k
 have ih0 := tremaref01_Runes.mono_l k
 unfold tremaref01_Runes.f
 repeat' first
   | (with_reducible exact ih0 _ _ _)
   | (with_reducible exact tremaref01_Decode.mono _ _ _)
   | (with_reducible exact LeO.refl _)
   | (with_reducible exact LeO.none _)
   | (with_reducible refine LeO.ite ?_ ?_)
   | (with_reducible refine LeO.bind ?_ (fun _ => ?_))
   | exact ih0 _ _ _
   | exact tremaref01_Decode.mono _ _ _
   | exact LeO.none _
   | refine LeO.ite ?_ ?_
   | refine LeO.bind ?_ (fun _ => ?_)
set_option maxHeartbeats 8000000 in
set_option maxRecDepth 100000 in
theorem tremaref01_Runes.calls (k : Nat) (A0 : Option Addr) (c0 : Nat) (l0 : List Int) (r : List Int) (w : World) (hr0 : Kd.C (Kd.int .u8) w A0 l0.length l0) (hc0 : l0.length ≤ c0) (h : tremaref01_Runes.f k l0 = some r) :
  Calls Tryd.prog 28 #[.slice A0 l0.length c0] w fun e w' => ∃ v0_ : Value, e = .returned (v0_) ∧ Kd.R (Kd.int .i32) 21 w' w.heap.size (fun _ => True) v0_ r ∧ Below w.heap.size w w' := by
 have HR0 := Aside0.mk hr0
 have HC0 := Aside0.mk hc0
 clear hr0 hc0
 have HB := Aside0.mk (Below.refl w.heap.size w)
 have H : ((tremaref01_Decode.f k l0 false).bind fun t276 => (tremaref01_Runes.l0 k ([] : List Int) t276 0)) = some r := h
 clear h
 replace H := Option.bind_eq_some_iff.mp H
 obtain ⟨t276, A20, H⟩ := H
 replace H : (tremaref01_Runes.l0 k ([] : List Int) t276 0) = some r := H
 have A2 := Aside0.mk A20
 clear A20
 have H' := Aside0.mk H
 clear H
 go_enter Tryd.func28, Tryd.ntmps28
 go_wp2_with (first | ((with_reducible refine gate_callee (f := 59) rfl ?_); refine goesL_ (some 7) rfl rfl Tryd.func59 (by kernel_rfl) rfl #[.slice A0 l0.length c0, .bool false] rfl (by (try simp only [List.map_toArray, List.map_cons, List.map_nil]); first | done | rfl | (simp only [List.length_drop, List.length_take]; rfl)) ?_; (with_reducible refine (tremaref01_Decode.calls k _ _ l0 false t276 _ ?side1 ?side2 A2.out).mono ?_); (case side1 => repeat (first | exact HR0.out | (with_reducible refine Kd.C_alloc ?_ _) | (with_reducible refine Kd.C_drewN ?_ _) | (with_reducible refine Kd.C_drew ?_))); (case side2 => exact HC0.out); rintro e w3 ⟨v277, rfl, ho0, hb⟩; refine ⟨_, rfl, ?_⟩; have n0_ := Aside0.mk (Kd.R_lower ho0 (below_size (by repeat (first | (with_reducible first | exact HB.out | apply below_alloc | apply pw_below_drewN | apply below_drew1) | exact HB.out)))); have n1_ := Aside0.mk (below_step (by repeat (first | (with_reducible first | exact HB.out | apply below_alloc | apply pw_below_drewN | apply below_drew1) | exact HB.out)) hb); clear HB; have HO278 := n0_; have HB := n1_; clear n0_ n1_; (try clear hb); (try clear hb2); (try clear hk); (try clear hi); (try clear ho0)))
 go_loopg [3, 5] k (fun kq v3 v5 w' => ∃ (x3_1 : List Int) (x5_1 : Int), v5 = .int .i64 x5_1 ∧ Aside0 (tremaref01_Runes.l0 kq x3_1 t276 x5_1 = some r) ∧ Aside0 (kq ≤ k) ∧ Aside0 (Kd.R (Kd.int .i32) 21 w' w.heap.size (fun _ => True) v3 x3_1) ∧ Aside0 (Kd.R k75 75 w' w.heap.size (fun _ => True) v277 t276) ∧ Aside0 (Below w.heap.size w w'))
 case atStart => exact ⟨(([] : List Int)), (0), (by first | rfl | (simp; done) | (simp [*]; done)), H', ⟨Nat.le_refl _⟩, ⟨by first | exact Kd.R_nil _ _ _ _ _ | exact Kd.N_nil _ _ _ _ _ | exact Kd.V_nil _ _ _ _ _ | exact Kd.Q_nil _ _ _ _ _ | exact Kd.S_nil _ _ _ _ _⟩, ⟨by (with_reducible repeat (first | apply Kd.R_alloc | apply Kd.R_drewN | apply Kd.R_drew)); exact HO278.out⟩, ⟨by repeat (first | (with_reducible first | exact HB.out | apply below_alloc | apply pw_below_drewN | apply below_drew1) | exact HB.out)⟩⟩
 case round =>
  clear H'
  try clear c2
  try clear p2
  obtain ⟨x3_1, x5_1, rfl, HA, HK1, HO_3, HO_4, HB⟩ := hrel
  cases gk with
  | zero => exact absurd HA.out (by simp [tremaref01_Runes.l0])
  | succ k1 =>
   have H := HA.out
   clear HA
   simp only [tremaref01_Runes.l0] at H
   by_cases c4 : x5_1 < (t276.length : Int)
   ·rw [if_pos c4] at H
    have c4b0 : decide (x5_1 < (t276.length : Int)) = true := decide_eq_true c4
    clear c4
    by_cases c5 : 0 ≤ x5_1
    ·rw [if_pos c5] at H
     have c5b0 : decide (0 ≤ x5_1) = true := decide_eq_true c5
     clear c5
     by_cases c6 : x3_1.length < 35184372088832
     ·rw [if_pos c6] at H
      have LMc6 := Aside0.mk c6
      clear c6
      obtain ⟨y280, hy280⟩ : ∃ y_ : List Int, y_ = (x3_1 ++ [(rd_T75 t276 x5_1).f0]) := ⟨_, rfl⟩
      replace H : (tremaref01_Runes.l0 k1 y280 t276 (wrap64 (x5_1 + 1))) = some r := by first | (rw [hy280]; with_reducible exact H) | (have H2_ := (Option.bind_some _ _).symm.trans H; rw [hy280]; with_reducible exact H2_) | (have H2_ := (Option.bind_some _ _).symm.trans H; with_reducible exact H2_) | with_reducible exact H | (rw [hy280]; exact H) | exact H
      have Ny280 := Aside0.mk hy280
      clear hy280
      have H' := Aside0.mk H
      clear H
      obtain ⟨Ao7, co7, eo7⟩ := Kd.R_slice HO_4.out
      subst eo7
      have p279 : 0 ≤ (x5_1 : Int) := of_decide_eq_true (by first | (with_reducible assumption) | assumption)
      have q279 : x5_1 < (t276.length : Int) := of_decide_eq_true (by first | (with_reducible assumption) | assumption)
      obtain ⟨ad279, e279, hx279_0, hx279_1, hx279_2⟩ := at_T75 (Kd.R_reads' HO_4.out).2.2 x5_1 p279 q279
      cases e279
      replace p279 := eq_true p279
      replace q279 := eq_true q279
      go_wp2_with (first | ((with_reducible refine gate_builtin (b := .append) (xs := #[.tmp 14, .tmp 20]) rfl ?_); at_builtin; refine Kd.R_append (Kd.int .i32) (w0 := w) w.heap.size rfl (.tmp 14) (.tmp 20) 22 21 (.int .i32 0) 4 rfl Tryd.underlying22 info21 rfl (by decide) (by omega) u3 x3_1 ((rd_T75 t276 x5_1).f0) [.int .i32 ((rd_T75 t276 x5_1).f0)] (fun _ => True) (fun _ => False) rfl rfl ?aP (fun _ hk => hk.elim) ?aF ?aO ?aB ?aS ?aL ?_; (case aP => exact rfl); (case aB => exact (by repeat (first | (with_reducible first | exact HB.out | apply below_alloc | apply pw_below_drewN | apply below_drew1) | exact HB.out))); (case aF => exact (fun _ _ => trivial)); (case aO => exact (by (with_reducible repeat (first | apply Kd.R_alloc | apply Kd.R_drewN | apply Kd.R_drew)); exact HO_3.out)); (case aS => exact (below_size (by repeat (first | (with_reducible first | exact HB.out | apply below_alloc | apply pw_below_drewN | apply below_drew1) | exact HB.out)))); (case aL => have := LMc6.out; omega); intro v281 w8 ho hb hg hat; rw [← Ny280.out] at ho; have n0_ := Aside0.mk (Kd.R_over' (by (with_reducible repeat (first | apply Kd.R_alloc | apply Kd.R_drewN | apply Kd.R_drew)); exact HO_4.out) (Kd.R_typed (by (with_reducible repeat (first | apply Kd.R_alloc | apply Kd.R_drewN | apply Kd.R_drew)); exact HO_3.out)) (by decide) hg); have n1_ := Aside0.mk (hb); have n2_ := Aside0.mk (ho); clear HO_4; clear HB; clear HO_3; have HO_4 := n0_; have HB := n1_; have HO282 := n2_; clear n0_ n1_ n2_; clear ho hb hg hat))
      go_roundg k1
      case measure => have := HK1.out; omega
      case rel => exact ⟨(y280), (wrap64 (x5_1 + 1)), (by first | rfl | (simp; done) | (simp [*]; done)), H', ⟨by have := HK1.out; omega⟩, ⟨by (with_reducible repeat (first | apply Kd.R_alloc | apply Kd.R_drewN | apply Kd.R_drew)); exact HO282.out⟩, ⟨by (with_reducible repeat (first | apply Kd.R_alloc | apply Kd.R_drewN | apply Kd.R_drew)); exact HO_4.out⟩, ⟨by repeat (first | (with_reducible first | exact HB.out | apply below_alloc | apply pw_below_drewN | apply below_drew1) | exact HB.out)⟩⟩
     ·rw [if_neg c6] at H
      exact absurd H (by simp)
    ·rw [if_neg c5] at H
     exact absurd H (by simp)
   ·rw [if_neg c4] at H
    have c4b0 : decide (x5_1 < (t276.length : Int)) = false := decide_eq_false c4
    clear c4
    obtain rfl := Option.some.inj H
    obtain ⟨Ao9, co9, eo9⟩ := Kd.R_slice HO_4.out
    subst eo9
    go_wp2
    go_ret
    exact ⟨_, by first | rfl | (simp [errW_none, errW_some] <;> rfl) | (simp [*, errW_none, errW_some] <;> rfl), by (with_reducible repeat (first | apply Kd.R_alloc | apply Kd.R_drewN | apply Kd.R_drew)); exact HO_3.out, by repeat (first | (with_reducible first | exact HB.out | apply below_alloc | apply pw_below_drewN | apply below_drew1) | exact HB.out)⟩
end Go.Proofs.YtiggjbclbdikmaaDoor.X
namespace Go.Proofs.YtiggjbclbdikmaaDoor.Nf
set_option linter.unusedVariables false
set_option linter.unusedSimpArgs false
open Go.Proofs.YtiggjbclbdikmaaDoor.Vd (decU)
open Go.RowKit Go.Proofs.YtiggjbclbdikmaaDoorW.PrintWords Go.Proofs.YtiggjbclbdikmaaDoorW.PrintLast Go.Proofs.YtiggjbclbdikmaaDoorW.PrintMore Go.Proofs.YtiggjbclbdikmaaDoor.Hp Go.Proofs.YtiggjbclbdikmaaDoor.Va Go.Proofs.YtiggjbclbdikmaaDoor.Na Go.Proofs.YtiggjbclbdikmaaDoor.Nb Go.Proofs.YtiggjbclbdikmaaDoor.Ng Go.Proofs.YtiggjbclbdikmaaDoor.X Go.Proofs.YtiggjbclbdikmaaDoor.Fr
theorem up {W w' : World} {o : Obj} (h : Below (W.alloc o).heap.size (W.alloc o) w') : Below W.heap.size W w' := below_step (below_alloc (Below.refl _ _) o) h
theorem litC (W : World) (cs : Array Value) (xs : List Int) (hc : cs.toList = nums .i32 xs) (hm : xs.length ≤ 9223372036854775807) : K3.C (W.alloc (.cells cs T3)) (some ⟨W.heap.size, 0, none⟩) xs.length xs := rdC (lit_reads (k := .i32) (heap_alloc_new W _) hc hm)
theorem Is1 (W : World) (hG : G W) (x : Int) (r : Bool) (h : norm_Is.f 40 [x] = some r) : Calls Tryd.prog 23 #[.slice (some ⟨W.heap.size, 0, none⟩) 1 1] (W.alloc (.cells #[.int .i32 x] T3)) fun e w' => e = .returned (.bool r) ∧ Below W.heap.size W w' :=
  (norm_Is.calls 40 _ 1 [x] r _ (litC W _ [x] rfl (by simp)) (Nat.le_refl _) h (hG.below (below_alloc (Below.refl _ _) _))).mono fun e w' ⟨h1, h2⟩ => ⟨h1, up h2⟩
theorem Norm3 (W : World) (hG : G W) : Calls Tryd.prog 22 #[.slice (some ⟨W.heap.size, 0, none⟩) 3 3] (W.alloc (.cells #[.int .i32 97, .int .i32 769, .int .i32 803] T3)) fun e w' => ∃ A c, e = .returned (.slice A 3 c) ∧ 3 ≤ c ∧ K3.C w' A 3 [97, 803, 769] ∧ Below W.heap.size W w' :=
  (norm_Normal.calls 40 _ 3 [97, 769, 803] [97, 803, 769] _ (litC W _ [97, 769, 803] rfl (by simp)) (by decide) (by decide +kernel) (hG.below (below_alloc (Below.refl _ _) _))).mono fun e w' ⟨v, h1, h2, h3⟩ => by
    obtain ⟨A, c, rfl, hc, hC⟩ := Kd.R_reads h2
    exact ⟨A, c, h1, hc, hC, up h3⟩
theorem SameR (W : World) (A : Option Addr) (c : Nat) (xs : List Int) (cs : Array Value) (hc : xs.length ≤ c) (hC : K3.C W A xs.length xs) (hcs : cs.toList = nums .i32 xs) (hm : xs.length ≤ 9223372036854775807) (n : Nat) (hn : n = xs.length) (h : tremaref01_SameRunes.f 40 xs xs = some true) :
    Calls Tryd.prog 21 #[.slice A n c, .slice (some ⟨W.heap.size, 0, none⟩) n n] (W.alloc (.cells cs T3)) fun e w' => e = .returned (.bool true) ∧ Below W.heap.size W w' := by
  subst hn
  exact (tremaref01_SameRunes.calls 40 A c xs _ _ xs true _ (Kd.C_below hC (below_alloc (Below.refl _ _) _)) hc (litC W cs xs hcs hm) (Nat.le_refl _) h).mono fun e w' ⟨h1, h2⟩ => ⟨h1, up h2.below⟩
theorem Same2 (W : World) (hG : G W) : Calls Tryd.prog 24 #[.slice (some ⟨W.heap.size, 0, none⟩) 1 1, .slice (some ⟨W.heap.size + 1, 0, none⟩) 2 2] ((W.alloc (.cells #[.int .i32 8491] T3)).alloc (.cells #[.int .i32 65, .int .i32 778] T3)) fun e w' => e = .returned (.bool true) ∧ Below W.heap.size W w' := by
  have h2 := litC (W.alloc (.cells #[.int .i32 8491] T3)) #[.int .i32 65, .int .i32 778] [65, 778] rfl (by simp)
  rw [World.size_alloc] at h2
  exact (norm_Same.calls 40 _ 1 [8491] _ 2 [65, 778] true _ (Kd.C_below (litC W _ [8491] rfl (by simp)) (below_alloc (Below.refl _ _) _)) (by decide) h2 (by decide) (by decide +kernel) (hG.below (below_step (below_alloc (Below.refl _ _) _) (below_alloc (Below.refl _ _) _)))).mono fun e w' ⟨h1, h2⟩ => ⟨h1, up (up h2)⟩
theorem Text1 (W : World) (hG : G W) : Calls Tryd.prog 25 #[.slice (some ⟨W.heap.size, 0, none⟩) 2 2] (W.alloc (.cells #[.int .u8 195, .int .u8 169] 5 (2, 3))) fun e w' => e = .returned (.string ⟨#[101, 204, 129]⟩) ∧ Below W.heap.size W w' :=
  (norm_Text.calls 40 _ 2 [195, 169] ⟨#[101, 204, 129]⟩ _ (rdC (lit_reads (k := .u8) (xs := [195, 169]) (heap_alloc_new W _) rfl (by simp))) (by decide) (by decide +kernel) (hG.below (below_alloc (Below.refl _ _) _))).mono fun e w' ⟨h1, h2⟩ => ⟨h1, up h2⟩
theorem Runes1 (W : World) : Calls Tryd.prog 27 #[.string ⟨#[101, 204, 129]⟩] W fun e w' => ∃ A c, e = .returned (.slice A 2 c) ∧ Below W.heap.size W w' :=
  (norm_Runes.calls ⟨#[101, 204, 129]⟩ [101, 769] W (by decide +kernel)).mono fun e w' ⟨v, h1, h2, h3⟩ => by
    obtain ⟨A, c, rfl⟩ := Kd.R_slice h2
    exact ⟨A, c, h1, h3⟩
theorem Wr1 (W : World) (hG : G W) (g base : Nat) (hb3 : 3 ≤ base) (h : IsForm g base [] false (fun b => b = g) W) : Calls Tryd.prog 31 #[.pointer (some ⟨g, 0, none⟩), .slice (some ⟨W.heap.size, 0, none⟩) 2 2] (W.alloc (.cells #[.int .i32 101, .int .i32 769] T3)) fun e w' => ∃ A, e = .returned (.slice A 1 1) ∧ IsForm g base [769] false (fun b => base ≤ b) w' ∧ Chg (fun b => b = g) W w' := by
  have hlt := h.lt
  refine (Write _ (hG.below (below_alloc (Below.refl _ _) _)) g base [] _ (h.below (below_alloc (Below.refl _ _) _)) hb3 _ 2 2 [101, 769] (litC W _ [101, 769] rfl (by simp)) (by decide) (by decide) (by decide +kernel)).mono ?_
  rintro e w' ⟨A, h1, h2, h3, h4, h5⟩
  rw [show sure ([] ++ [101, 769].flatMap decU) = 1 by decide +kernel] at h1 h4
  rw [show List.drop 1 ([] ++ List.flatMap decU [101, 769]) = ([769] : List Int) by decide +kernel] at h4
  refine ⟨A, h1, h4.mono fun k hk => ?_, (Chg.of_below (below_alloc (Below.refl W.heap.size W) _) (fun k h1 h2 => by omega)).trans h5 (fun _ _ h => h)⟩
  rcases hk with rfl | ⟨hk, _⟩
  · exact hlt.2.1
  · rw [World.size_alloc] at hk; omega
theorem Wr2 (W : World) (hG : G W) (g base : Nat) (hb3 : 3 ≤ base) (h : IsForm g base [769] false (fun b => base ≤ b) W) : Calls Tryd.prog 31 #[.pointer (some ⟨g, 0, none⟩), .slice (some ⟨W.heap.size, 0, none⟩) 1 1] (W.alloc (.cells #[.int .i32 98] T3)) fun e w' => ∃ A, e = .returned (.slice A 2 2) ∧ K3.C w' A 2 [769, 98] ∧ IsForm g base [] false (fun b => base ≤ b) w' ∧ Chg (fun b => b = g) W w' := by
  have hlt := h.lt
  refine (Write _ (hG.below (below_alloc (Below.refl _ _) _)) g base [769] _ (h.below (below_alloc (Below.refl _ _) _)) hb3 _ 1 1 [98] (litC W _ [98] rfl (by simp)) (by decide) (by decide) (by decide +kernel)).mono ?_
  rintro e w' ⟨A, h1, h2, h3, h4, h5⟩
  rw [show sure ([769] ++ [98].flatMap decU) = 2 by decide +kernel] at h1 h2 h4
  rw [show List.drop 2 ([769] ++ List.flatMap decU [98]) = ([] : List Int) by decide +kernel] at h4
  rw [show ordL (List.take 2 ([769] ++ List.flatMap decU [98])) = [769, 98] by decide +kernel] at h2
  refine ⟨A, h1, h2.C (by simp), h4.mono fun k hk => ?_, (Chg.of_below (below_alloc (Below.refl W.heap.size W) _) (fun k h1 h2 => by omega)).trans h5 (fun _ _ h => h)⟩
  rcases hk with rfl | ⟨hk, _⟩
  · exact hlt.2.1
  · rw [World.size_alloc] at hk; omega
set_option maxRecDepth 100000 in
set_option maxHeartbeats 8000000 in
theorem fixedP (w : World) (hG : G w) : Calls Tryd.prog 19 #[] w fun e w' => e = .returned (.bool true) ∧ Below w.heap.size w w' := by
  have hb3 := G_size hG
  have HG := Aside0.mk hG
  have H3 := Aside0.mk hb3
  clear hG hb3
  go_enter Tryd.func19, Tryd.ntmps19
  go_upto_region 4 with (first | (go_at_call 30; go_must (refine (NewF w).mono ?_; rintro e w1 ⟨g, rfl, p1, p2, p3⟩; have Hg := Aside0.mk p1; have HFm := Aside0.mk p2; have HB := Aside0.mk p3; clear p1 p2 p3)))
  go_upto_region 5 with (first | (go_at_call 31; go_must (refine (Wr1 w1 (HG.out.below HB.out) g w.heap.size H3.out HFm.out).mono ?_; rintro e w2 ⟨A2, rfl, p1, p2⟩; have n0_ := Aside0.mk (p2.below_of HB.out (fun k hk => by rw [hk]; exact Hg.out)); clear HB HFm; have HB := n0_; have HFm := Aside0.mk p1; clear p1 p2 n0_)))
  go_upto_region 6 with (first | (go_at_call 33; go_must (refine (PendF _ g _ _ _ _ HFm.out).mono ?_; rintro e w3 ⟨rfl, rfl⟩)))
  go_upto_region 7 with (first | (go_at_call 31; go_must (refine (Wr2 _ (HG.out.below HB.out) g w.heap.size H3.out HFm.out).mono ?_; rintro e w4 ⟨A4, rfl, p0, p1, p2⟩; have n0_ := Aside0.mk (p2.below_of HB.out (fun k hk => by rw [hk]; exact Hg.out)); clear HB HFm; have HB := n0_; have HFm := Aside0.mk p1; have HBC := Aside0.mk p0; clear p0 p1 p2 n0_)))
  have kc : ∀ W : World, (convert 27 27 (.slice (some ⟨W.heap.size, 0, none⟩) 2 2)).run Tryd.prog (W.alloc (.cells #[.int .u8 195, .int .u8 169] 5)) = .ok (.slice (some ⟨W.heap.size, 0, none⟩) 2 2) (W.alloc (.cells #[.int .u8 195, .int .u8 169] 5 (2, 3))) := fun W => Lib.run_convert_bytes_const W 27 5 _ 2 2 Tryd.underlying27 Tryd.underlying5
  have T1 : Aside0 True := ⟨trivial⟩
  have T2 : Aside0 True := ⟨trivial⟩
  have s1 : (ByteArray.mk #[101, 204, 129] == ByteArray.mk #[101, 204, 129]) = true := by decide
  go_wp2_with (first | (go_at_call 22; go_must (refine (Norm3 _ (HG.out.below HB.out)).mono ?_; rintro e w5 ⟨A5, c5, rfl, q0, q1, p⟩; have HC5 := Aside0.mk q1; have Hc5 := Aside0.mk q0; clear q0 q1; have n0_ := Aside0.mk (below_step HB.out p); have n1_ := Aside0.mk (HFm.out.below p); have n2_ := Aside0.mk (Kd.C_below HBC.out p); clear HB HFm HBC; have HB := n0_; have HFm := n1_; have HBC := n2_; clear n0_ n1_ n2_ p)) | (go_at_call 21; have t := T1; clear T1; go_must (refine (SameR _ A5 c5 [97, 803, 769] _ Hc5.out HC5.out rfl (by simp) 3 rfl (by decide +kernel)).mono ?_; clear t; rintro e w6 ⟨rfl, p⟩; have n0_ := Aside0.mk (below_step HB.out p); have n1_ := Aside0.mk (HFm.out.below p); have n2_ := Aside0.mk (Kd.C_below HBC.out p); clear HB HFm HBC; have HB := n0_; have HFm := n1_; have HBC := n2_; clear n0_ n1_ n2_ p)) | (go_at_call 24; go_must (refine (Same2 _ (HG.out.below HB.out)).mono ?_; rintro e w7 ⟨rfl, p⟩; have n0_ := Aside0.mk (below_step HB.out p); have n1_ := Aside0.mk (HFm.out.below p); have n2_ := Aside0.mk (Kd.C_below HBC.out p); clear HB HFm HBC; have HB := n0_; have HFm := n1_; have HBC := n2_; clear n0_ n1_ n2_ p)) | (go_at_call 23; have t := T2; clear T2; go_must (refine (Is1 _ (HG.out.below HB.out) 65 true (by decide +kernel)).mono ?_; clear t; rintro e w8 ⟨rfl, p⟩; have n0_ := Aside0.mk (below_step HB.out p); have n1_ := Aside0.mk (HFm.out.below p); have n2_ := Aside0.mk (Kd.C_below HBC.out p); clear HB HFm HBC; have HB := n0_; have HFm := n1_; have HBC := n2_; clear n0_ n1_ n2_ p)) | (go_at_call 23; go_must (refine (Is1 _ (HG.out.below HB.out) 233 false (by decide +kernel)).mono ?_; rintro e w9 ⟨rfl, p⟩; have n0_ := Aside0.mk (below_step HB.out p); have n1_ := Aside0.mk (HFm.out.below p); have n2_ := Aside0.mk (Kd.C_below HBC.out p); clear HB HFm HBC; have HB := n0_; have HFm := n1_; have HBC := n2_; clear n0_ n1_ n2_ p)) | (go_at_call 25; go_must (refine (Text1 _ (HG.out.below HB.out)).mono ?_; rintro e wa ⟨rfl, p⟩; have n0_ := Aside0.mk (below_step HB.out p); have n1_ := Aside0.mk (HFm.out.below p); have n2_ := Aside0.mk (Kd.C_below HBC.out p); clear HB HFm HBC; have HB := n0_; have HFm := n1_; have HBC := n2_; clear n0_ n1_ n2_ p)) | (go_at_call 27; go_must (refine (Runes1 _).mono ?_; rintro e wb ⟨Ab, cb, rfl, p⟩; have n0_ := Aside0.mk (below_step HB.out p); have n1_ := Aside0.mk (HFm.out.below p); have n2_ := Aside0.mk (Kd.C_below HBC.out p); clear HB HFm HBC; have HB := n0_; have HFm := n1_; have HBC := n2_; clear n0_ n1_ n2_ p)) | (go_at_call 21; go_must (refine (SameR _ A4 2 [769, 98] _ (by decide) HBC.out rfl (by simp) 2 rfl (by decide +kernel)).mono ?_; rintro e wc ⟨rfl, p⟩; have n0_ := Aside0.mk (below_step HB.out p); have n1_ := Aside0.mk (HFm.out.below p); have n2_ := Aside0.mk (Kd.C_below HBC.out p); clear HB HFm HBC; have HB := n0_; have HFm := n1_; have HBC := n2_; clear n0_ n1_ n2_ p)) | (go_at_call 34; go_must (refine (Close _ (HG.out.below HB.out) g _ [] _ HFm.out H3.out (by simp)).mono ?_; rintro e wd ⟨Ad, cd, rfl, q0, q1, q2, q3, p⟩; have n0_ := Aside0.mk (p.below_of HB.out (fun k hk => hk)); clear HB HFm q0 q1 q2 q3 p; have HB := n0_; clear n0_)))
  go_ret
  exact ⟨rfl, HB.out⟩
end Go.Proofs.YtiggjbclbdikmaaDoor.Nf
namespace Go.Proofs.YtiggjbclbdikmaaDoor.X
open Go.RowKit Go.Proofs.YtiggjbclbdikmaaDoorW.PrintWords
end Go.Proofs.YtiggjbclbdikmaaDoor.X
namespace Go.Proofs.YtiggjbclbdikmaaDoor.Ot
set_option linter.unusedVariables false
set_option linter.unusedSimpArgs false
open Go.RowKit Go.Proofs.YtiggjbclbdikmaaDoorW.PrintWords Go.Proofs.YtiggjbclbdikmaaDoor.Ev0 Go.Proofs.YtiggjbclbdikmaaDoor.X Go.Proofs.YtiggjbclbdikmaaDoor.Ux Go.Proofs.YtiggjbclbdikmaaDoor.Va Go.Proofs.YtiggjbclbdikmaaDoor.Ve Go.Proofs.YtiggjbclbdikmaaDoor.Vp0 Go.Proofs.YtiggjbclbdikmaaDoor.Vr Go.Proofs.YtiggjbclbdikmaaDoor.Vu Go.Proofs.YtiggjbclbdikmaaDoor.Na Go.Proofs.YtiggjbclbdikmaaDoor.Oa Go.Proofs.YtiggjbclbdikmaaDoor.Ob
theorem wf_bytes {xs : List Int} (h : ∀ x, x ∈ xs → (Lit.int .u8 x).wf = true) : Bytes xs := fun x hx => by
  have := h x hx
  simpa [Lit.wf, IntKind.min, IntKind.max, IntKind.signed, IntKind.bits] using this
theorem bytes_str (l : List Int) (hb : Bytes l) : bytesOf (strOfNums l) = l := by
  unfold bytesOf
  rw [strOfNums_data, List.map_map]
  conv => rhs; rw [← List.map_id l]
  refine List.map_congr_left fun x hx => ?_
  have := hb x hx
  show (((UInt8.ofNat x.toNat).toNat : Nat) : Int) = x
  rw [UInt8.toNat_ofNat']
  omega
theorem cont_range : ∀ (bs : List (Int × Int)) (t : List Int) (r i : Int), 0 ≤ r → 0 ≤ (cont bs t r i).1 ∧ ((cont bs t r i).1 = 65533 ∨ (cont bs t r i).1 < (r + 1) * 64 ^ bs.length)
  | [], t, r, i, h => by simp only [cont, List.length_nil, Int.pow_zero, Int.mul_one]; omega
  | b :: bs, [], r, i, h => ⟨show (0 : Int) ≤ 65533 by decide, .inl rfl⟩
  | (lo, hi) :: bs, x :: t, r, i, h => by
    simp only [cont]
    split
    · exact ⟨show (0 : Int) ≤ 65533 by decide, .inl rfl⟩
    · have hx : 0 ≤ x % 64 ∧ x % 64 < 64 := by omega
      have h1 := cont_range bs t (r * 64 + x % 64) (i + 1) (by omega)
      refine ⟨h1.1, h1.2.imp id fun h2 => Int.lt_of_lt_of_le h2 ?_⟩
      rw [List.length_cons, Int.pow_succ, Int.mul_comm (64 ^ bs.length) 64, ← Int.mul_assoc]
      exact Int.mul_le_mul_of_nonneg_right (by omega) (Int.le_of_lt (Int.pow_pos (by decide)))
theorem one1_32 (c : Int) (t : List Int) (hc : 0 ≤ c ∧ c ≤ 255) : I32 (one1 c t).1 := by
  unfold one1 I32
  cases h : bnd c with
  | none => simp
  | some bs =>
    have hl := bnd_len h
    have hs : 0 ≤ st c ∧ st c ≤ 127 := by unfold st; repeat' split <;> omega
    have h1 := cont_range bs t (st c) 1 hs.1
    have h2 : (st c + 1) * 64 ^ bs.length ≤ 128 * 64 ^ 3 := by
      refine Int.mul_le_mul (by omega) ?_ (Int.le_of_lt (Int.pow_pos (by decide))) (by decide)
      have : (64 : Int) ^ bs.length ≤ 64 ^ 3 := by
        rcases (show bs.length = 0 ∨ bs.length = 1 ∨ bs.length = 2 ∨ bs.length = 3 by omega) with e | e | e | e <;> rw [e] <;> decide
      exact this
    have h3 : (128 : Int) * 64 ^ 3 = 33554432 := by decide
    rw [h3] at h2
    show -2147483648 ≤ (cont bs t (st c) 1).1 ∧ (cont bs t (st c) 1).1 ≤ 2147483647
    omega
def rns (l : List Int) : List Int := (full l).map (·.f0)
theorem runesEv (l : List Int) (hb : Bytes l) (hl : l.length ≤ 1000000000) : Ev (fun k => tremaref01_Runes.f k l) (rns l) := by
  have hfl := Ud.full_len l
  unfold tremaref01_Runes.f
  have hd := Ref_dec l hb (by omega) false
  refine Ev.bind (Ev.of (tremaref01_Decode.mono l false) hd) ?_
  obtain ⟨P, hP⟩ : ∃ P, P = full l := ⟨_, rfl⟩
  have e : (dc l 0).1 ++ (if false = true then [] else rest1 (dc l 0).2.1 (dc l 0).2.2) = P := by rw [hP]; rfl
  rw [e]
  unfold rns
  rw [← hP] at hfl ⊢
  have key : ∀ q i : Nat, i + q = P.length → Ev (fun k => tremaref01_Runes.l0 k ((P.take i).map (·.f0)) P (i : Int)) (P.map (·.f0)) := by
    intro q
    induction q with
    | zero =>
      intro i hi
      obtain rfl : i = P.length := hi
      refine Ev.step (fun k => tremaref01_Runes.l0.eq_2 ..) ?_
      simp only [if_neg (Int.lt_irrefl _), List.take_length]
      exact Ev.now _
    | succ q ih =>
      intro i hi
      have hil : i < P.length := by omega
      have ih := ih (i + 1) (by omega)
      rw [List.take_succ_eq_append_getElem hil, List.map_append] at ih
      have hr : rd_T75 P (i : Int) = P[i] := by unfold rd_T75; simp [List.getD_eq_getElem?_getD, List.getElem?_eq_getElem hil]
      refine Ev.step (fun k => tremaref01_Runes.l0.eq_2 ..) ?_
      simp only [if_pos (show (i : Int) < (P.length : Int) by omega), if_pos (show (0 : Int) ≤ (i : Int) by omega), hr, if_pos (show ((P.take i).map (·.f0)).length < 35184372088832 by rw [List.length_map, List.length_take]; omega), w64 (i := i) (by omega)]
      exact ih
  exact key P.length 0 (by omega)
end Go.Proofs.YtiggjbclbdikmaaDoor.Ot
namespace Go.Proofs.YtiggjbclbdikmaaDoor.Sga
set_option linter.unusedVariables false
set_option linter.unusedSimpArgs false
open Go.Proofs.YtiggjbclbdikmaaDoor.Vd (decU)
open Go.Proofs.YtiggjbclbdikmaaDoor.Fr (K3 T3)
open Go.Proofs.YtiggjbclbdikmaaDoor.En (enc enc_pure enc_len enc_byte)
open Go.RowKit Go.Proofs.YtiggjbclbdikmaaDoorW.PrintWords Go.Proofs.YtiggjbclbdikmaaDoor.Hp Go.Proofs.YtiggjbclbdikmaaDoor.Fm Go.Proofs.YtiggjbclbdikmaaDoor.X Go.Proofs.YtiggjbclbdikmaaDoor.Va Go.Proofs.YtiggjbclbdikmaaDoor.Oa Go.Proofs.YtiggjbclbdikmaaDoor.Vp0 Go.Proofs.YtiggjbclbdikmaaDoor.Cn
abbrev TS : Nat := 87
abbrev TG : Nat := 69
abbrev KB : Kd Int := Kd.int .u8
abbrev kG := k69
def txt (o : List Int) : ByteArray := strOfNums (enc (nrm o))
theorem EncR (w : World) (A : Option Addr) (n c : Nat) (l : List Int) (hC : K3.C w A n l) (hn : n = l.length) (hc : n ≤ c) (hl : n ≤ 1000000000) :
    Calls Tryd.prog 56 #[.slice A n c] w fun e w' => ∃ A' m c', e = .returned (.slice A' m c') ∧ m = (enc l).length ∧ m ≤ c' ∧ KB.C w' A' m (enc l) ∧ Below w.heap.size w w' := by
  subst hn
  refine (utf_Encode.calls (2 * l.length + 1) A c l (enc l) w hC hc (enc_pure l (by omega))).mono ?_
  rintro e w' ⟨v, rfl, p1, p2⟩
  obtain ⟨A', c', rfl, hc', hC'⟩ := Kd.R_reads p1
  exact ⟨A', _, c', rfl, rfl, hc', hC', p2⟩
def segCells (gd : Nat) (lim : Int) (ov : Value) (a e : Int) (cl : Bool) (er : Int) : Array Value := #[.pointer (some ⟨gd, 0, none⟩), .int .i64 lim, ov, .int .i64 a, .int .i64 e, .bool cl, .int .i64 er]
set_option maxRecDepth 100000 in
set_option maxHeartbeats 4000000 in
theorem WholeP (w : World) (hG : G w) (g gd : Nat) (lim a e er : Int) (cl : Bool) (A : Option Addr) (n c : Nat) (o : List Int) (hb : w.heap[g]? = some (.cells (segCells gd lim (.slice A n c) a e cl er) TS (0, 0))) (hC : K3.C w A n o) (hn : n = o.length) (hc : n ≤ c) (hwf : ∀ x ∈ o, I32 x) (hl : n ≤ 60000000) :
    Calls Tryd.prog 73 #[.pointer (some ⟨g, 0, none⟩)] w fun E w' => E = .returned (.agg #[.string (txt o), .int .i64 a, .int .i64 e]) ∧ Below w.heap.size w w' := by
  have hnl := nrm_len3 o hwf
  obtain ⟨q, hq⟩ : ∃ q, q = (nrm o).length := ⟨_, rfl⟩
  have hq5 : q ≤ 180000000 := by omega
  have HQ := Aside0.mk hq
  have HN := Aside0.mk hn
  have HG := Aside0.mk hG
  have HC := Aside0.mk hC
  have HWF := Aside0.mk hwf
  have HB := Aside0.mk hb
  clear hq hn hG hC hwf hb hnl
  go_enter Tryd.func73, Tryd.ntmps73
  go_upto_region 1 with (fail)
  obtain ⟨w1, hw1⟩ : ∃ w1, w1 = w.alloc (.cells #[.string ⟨#[]⟩, .int .i64 0, .int .i64 0] TG) := ⟨_, rfl⟩
  have HB1 := Aside0.mk (show Below w.heap.size w w1 by rw [hw1]; exact below_alloc (Below.refl _ _) _)
  have HN1 := Aside0.mk (show w1.heap[w.heap.size]? = some (.cells #[.string ⟨#[]⟩, .int .i64 0, .int .i64 0] TG (0, 0)) by rw [hw1]; exact heap_alloc_new w _)
  rw [← hw1]
  obtain ⟨r, hr⟩ : ∃ r, r = w.heap.size := ⟨_, rfl⟩
  rw [← hr] at HN1 ⊢
  have HR := Aside0.mk hr
  clear hw1 hr
  have HD := Aside0.mk (((Drawn0.refl w1).step 1).below)
  refine wp_region_held_drew (S := fun W => Below w.heap.size w W) (by kernel_rfl) (below_step HB1.out HD.out) (fun hS => ?_)
  have HL := Aside0.mk (show ∀ W, Below w.heap.size w W → W.heap[g]? = some (.cells (segCells gd lim (.slice A n c) a e cl er) TS (0, 0)) from fun W h => blk_below HB.out h)
  refine wpAnyH_take (i := 0) (oi := { dst := some 3, op := _, type := _, pos := _, after := _, guard := _ }) (v := .pointer (some ⟨g, 0, none⟩)) rfl (by kernel_rfl) (by kernel_rfl) (by kernel_rfl) (fun _ _ _ h => h) (Or.inl ⟨by rfl, fun W hW => ?_⟩) hS ?_
  · (go_simp)
  try simp only [Act.put, List.setIfInBounds_toArray, List.set_cons_zero, List.set_cons_succ]
  refine wpAnyH_take (i := 1) (oi := { dst := some 4, op := _, type := _, pos := _, after := _, guard := _ }) (v := .pointer (some ⟨g, 0, none⟩)) rfl (by kernel_rfl) (by kernel_rfl) (by kernel_rfl) (fun _ _ _ h => h) (Or.inl ⟨by rfl, fun W hW => ?_⟩) hS ?_
  · (go_simp)
  try simp only [Act.put, List.setIfInBounds_toArray, List.set_cons_zero, List.set_cons_succ]
  refine wpAnyH_take (i := 2) (oi := { dst := some 5, op := _, type := _, pos := _, after := _, guard := _ }) (v := .pointer (some ⟨g, 2, none⟩)) rfl (by kernel_rfl) (by kernel_rfl) (by kernel_rfl) (fun _ _ _ h => h) (Or.inl ⟨by rfl, fun W hW => ?_⟩) hS ?_
  · (go_simp)
  try simp only [Act.put, List.setIfInBounds_toArray, List.set_cons_zero, List.set_cons_succ]
  refine wpAnyH_take (i := 3) (oi := { dst := some 6, op := _, type := _, pos := _, after := _, guard := _ }) (v := .slice A n c) rfl (by kernel_rfl) (by kernel_rfl) (by kernel_rfl) (fun _ _ _ h => h) (Or.inl ⟨by rfl, fun W hW => ?_⟩) hS ?_
  · (have hcell := blk_cell (HL.out W hW) 2; simp only [segCells] at hcell; go_simp)
  try simp only [Act.put, List.setIfInBounds_toArray, List.set_cons_zero, List.set_cons_succ]
  refine wpAnyH_take (i := 7) (oi := { dst := some 10, op := _, type := _, pos := _, after := _, guard := _ }) (v := .pointer (some ⟨g, 0, none⟩)) rfl (by kernel_rfl) (by kernel_rfl) (by kernel_rfl) (fun _ _ _ h => h) (Or.inl ⟨by rfl, fun W hW => ?_⟩) hS ?_
  · (go_simp)
  try simp only [Act.put, List.setIfInBounds_toArray, List.set_cons_zero, List.set_cons_succ]
  refine wpAnyH_take (i := 8) (oi := { dst := some 11, op := _, type := _, pos := _, after := _, guard := _ }) (v := .pointer (some ⟨g, 0, none⟩)) rfl (by kernel_rfl) (by kernel_rfl) (by kernel_rfl) (fun _ _ _ h => h) (Or.inl ⟨by rfl, fun W hW => ?_⟩) hS ?_
  · (go_simp)
  try simp only [Act.put, List.setIfInBounds_toArray, List.set_cons_zero, List.set_cons_succ]
  refine wpAnyH_take (i := 9) (oi := { dst := some 12, op := _, type := _, pos := _, after := _, guard := _ }) (v := .pointer (some ⟨g, 3, none⟩)) rfl (by kernel_rfl) (by kernel_rfl) (by kernel_rfl) (fun _ _ _ h => h) (Or.inl ⟨by rfl, fun W hW => ?_⟩) hS ?_
  · (go_simp)
  try simp only [Act.put, List.setIfInBounds_toArray, List.set_cons_zero, List.set_cons_succ]
  refine wpAnyH_take (i := 10) (oi := { dst := some 13, op := _, type := _, pos := _, after := _, guard := _ }) (v := .int .i64 a) rfl (by kernel_rfl) (by kernel_rfl) (by kernel_rfl) (fun _ _ _ h => h) (Or.inl ⟨by rfl, fun W hW => ?_⟩) hS ?_
  · (have hcell := blk_cell (HL.out W hW) 3; simp only [segCells] at hcell; go_simp)
  try simp only [Act.put, List.setIfInBounds_toArray, List.set_cons_zero, List.set_cons_succ]
  refine wpAnyH_take (i := 11) (oi := { dst := some 14, op := _, type := _, pos := _, after := _, guard := _ }) (v := .pointer (some ⟨g, 0, none⟩)) rfl (by kernel_rfl) (by kernel_rfl) (by kernel_rfl) (fun _ _ _ h => h) (Or.inl ⟨by rfl, fun W hW => ?_⟩) hS ?_
  · (go_simp)
  try simp only [Act.put, List.setIfInBounds_toArray, List.set_cons_zero, List.set_cons_succ]
  refine wpAnyH_take (i := 12) (oi := { dst := some 15, op := _, type := _, pos := _, after := _, guard := _ }) (v := .pointer (some ⟨g, 0, none⟩)) rfl (by kernel_rfl) (by kernel_rfl) (by kernel_rfl) (fun _ _ _ h => h) (Or.inl ⟨by rfl, fun W hW => ?_⟩) hS ?_
  · (go_simp)
  try simp only [Act.put, List.setIfInBounds_toArray, List.set_cons_zero, List.set_cons_succ]
  refine wpAnyH_take (i := 13) (oi := { dst := some 16, op := _, type := _, pos := _, after := _, guard := _ }) (v := .pointer (some ⟨g, 4, none⟩)) rfl (by kernel_rfl) (by kernel_rfl) (by kernel_rfl) (fun _ _ _ h => h) (Or.inl ⟨by rfl, fun W hW => ?_⟩) hS ?_
  · (go_simp)
  try simp only [Act.put, List.setIfInBounds_toArray, List.set_cons_zero, List.set_cons_succ]
  refine wpAnyH_take (i := 14) (oi := { dst := some 17, op := _, type := _, pos := _, after := _, guard := _ }) (v := .int .i64 e) rfl (by kernel_rfl) (by kernel_rfl) (by kernel_rfl) (fun _ _ _ h => h) (Or.inl ⟨by rfl, fun W hW => ?_⟩) hS ?_
  · (have hcell := blk_cell (HL.out W hW) 4; simp only [segCells] at hcell; go_simp)
  try simp only [Act.put, List.setIfInBounds_toArray, List.set_cons_zero, List.set_cons_succ]
  refine wpAnyH_ready (rs := [4]) (by kernel_rfl) (by simp) ?_
  refine AllReadyH.cons (o := { dst := some 7, op := _, type := _, pos := _, after := _, guard := _ }) rfl (fun K hK => ?_) AllReadyH.nil
  go_simp
  (go_at_call 22)
  refine (NormR _ (HG.out.below hS) A n c o (Kd.C_below HC.out hS) HN.out hc HWF.out (by omega)).mono ?_
  rintro E w2 ⟨v2, rfl, p1, p2⟩
  obtain ⟨A2, c2, e2, hc2, hC2⟩ := Kd.R_reads p1
  rw [← HQ.out] at e2 hc2 hC2
  subst e2
  have B2 := Aside0.mk (below_then HD.out HD.out.size p2)
  clear p1 p2
  go_wp2_with fail
  refine hK.out _ _ (below_step HB1.out B2.out) (fun hS2 => ?_)
  clear hK K hS
  have hS := hS2
  clear hS2
  try simp only [Act.put, List.setIfInBounds_toArray, List.set_cons_zero, List.set_cons_succ]
  refine wpAnyH_ready (rs := [5]) (by kernel_rfl) (by simp) ?_
  refine AllReadyH.cons (o := { dst := some 8, op := _, type := _, pos := _, after := _, guard := _ }) rfl (fun K hK => ?_) AllReadyH.nil
  go_simp
  (go_at_call 56)
  refine (EncR _ A2 q c2 (nrm o) hC2 HQ.out hc2 (by omega)).mono ?_
  rintro E w3 ⟨A3, m3, c3, rfl, p0, p1, p2, p3⟩
  have B3 := Aside0.mk (below_then B2.out B2.out.size p3)
  have hcv := Sx.reads_string (P := Tryd.prog) (c := c3) Tryd.underlying27 Tryd.underlying5 Tryd.underlying9 (rdint p2)
  rw [show strOfNums (enc (nrm o)) = txt o from rfl] at hcv
  clear p0 p1 p2 p3 B2 hC2
  go_wp2_with fail
  refine hK.out _ _ (below_step HB1.out B3.out) (fun hS2 => ?_)
  clear hK K hS
  have hS := hS2
  clear hS2
  try simp only [Act.put, List.setIfInBounds_toArray, List.set_cons_zero, List.set_cons_succ]
  refine wpAnyH_ready (rs := [6]) (by kernel_rfl) (by simp) ?_
  refine AllReadyH.cons (o := { dst := some 9, op := _, type := _, pos := _, after := _, guard := _ }) rfl (fun K hK => ?_) AllReadyH.nil
  go_simp
  refine hK.out _ _ hS (fun hS2 => ?_)
  clear hK K hS2 hcv
  try simp only [Act.put, List.setIfInBounds_toArray, List.set_cons_zero, List.set_cons_succ]
  refine wpAnyH_take (i := 15) (oi := { dst := some 18, op := _, type := _, pos := _, after := _, guard := _ }) (v := .agg #[.string (txt o), .int .i64 a, .int .i64 e]) rfl (by kernel_rfl) (by kernel_rfl) (by kernel_rfl) (fun _ _ _ h => h) (Or.inl ⟨by rfl, fun W hW => ?_⟩) hS ?_
  · (go_simp)
  try simp only [Act.put, List.setIfInBounds_toArray, List.set_cons_zero, List.set_cons_succ]
  have hbk := blk_below HN1.out B3.out
  have c0 := blk_cell hbk 0
  have c1 := blk_cell hbk 1
  have c2 := blk_cell hbk 2
  have f0 := blk_frozen hbk 0
  have f1 := blk_frozen hbk 1
  have f2 := blk_frozen hbk 2
  have k3 := blk_set (blk_set (blk_set hbk 0 (.string (txt o))) 1 (.int .i64 a)) 2 (.int .i64 e)
  have H3 := Aside0.mk k3
  have HS3 := Aside0.mk (show Below w.heap.size w (((w3.setCell ⟨r, 0, none⟩ (.string (txt o))).setCell ⟨r, 1, none⟩ (.int .i64 a)).setCell ⟨r, 2, none⟩ (.int .i64 e)) by
    have h1 := (Chg.of_below (below_step HB1.out B3.out) (S := fun b => b = r) (fun k h1 h2 => absurd h1 (by omega)))
    have hp : ∀ j : Nat, (fun b => b = r) (⟨r, j, none⟩ : Addr).block ∨ w.heap.size ≤ (⟨r, j, none⟩ : Addr).block := fun _ => .inl rfl
    exact (((h1.setCell (hp 0) _).setCell (hp 1) _).setCell (hp 2) _).below (fun k hk => ⟨hk, fun h => by have := HR.out; omega⟩))
  clear hbk k3
  refine wpAnyH_ready (rs := [16]) (by kernel_rfl) (by simp) ?_
  refine AllReadyH.cons (o := { dst := none, op := _, type := _, pos := _, after := _, guard := _ }) rfl (fun K hK => ?_) AllReadyH.nil
  go_simp
  refine hK.out _ _ HS3.out (fun hS2 => ?_)
  clear hK K hS hS2
  refine wpAnyH_done (by kernel_rfl) ?_ _
  have q0 := (blk_cell H3.out 0).trans (show _ = some (Value.string (txt o)) from rfl)
  have q1 := (blk_cell H3.out 1).trans (show _ = some (Value.int .i64 a) from rfl)
  have q2 := (blk_cell H3.out 2).trans (show _ = some (Value.int .i64 e) from rfl)
  clear c0 c1 c2 f0 f1 f2 H3 HL
  generalize (((w3.setCell ⟨r, 0, none⟩ (.string (txt o))).setCell ⟨r, 1, none⟩ (.int .i64 a)).setCell ⟨r, 2, none⟩ (.int .i64 e)) = w4 at q0 q1 q2 HS3 ⊢
  go_wp2
  exact bodyPost_ret (v := .agg #[.string (txt o), .int .i64 a, .int .i64 e]) (by simp [results, Tryd.results73, go_sem, q0, q1, q2]) rfl ⟨rfl, HS3.out⟩
end Go.Proofs.YtiggjbclbdikmaaDoor.Sga
namespace Go.Proofs.YtiggjbclbdikmaaDoor.Fm
set_option linter.unusedVariables false
set_option linter.unusedSimpArgs false
open Go.RowKit Go.Proofs.YtiggjbclbdikmaaDoorW.PrintWords Go.Proofs.YtiggjbclbdikmaaDoor.Hp
theorem nodup_inj : ∀ {js : List Nat} {k l : Nat}, js.Nodup → (hk : k < js.length) → (hl : l < js.length) → js[k] = js[l] → k = l
  | j :: js, 0, 0, _, _, _, _ => rfl
  | j :: js, 0, l + 1, h, _, hl, e => by
    have e : j = js[l]'(by simpa using hl) := by simpa using e
    exact absurd (show j ∈ js by rw [e]; exact List.getElem_mem _) (List.nodup_cons.1 h).1
  | j :: js, k + 1, 0, h, hk, _, e => by
    have e : js[k]'(by simpa using hk) = j := by simpa using e
    exact absurd (show j ∈ js by rw [← e]; exact List.getElem_mem _) (List.nodup_cons.1 h).1
  | j :: js, k + 1, l + 1, h, hk, hl, e => congrArg (· + 1) (nodup_inj (List.nodup_cons.1 h).2 (by simpa using hk) (by simpa using hl) (by simpa using e))
section
variable {w0 w w' : World} {L L' M : List Th}
theorem Sep.pick (h : Sep w0 L w) (js : List Nat) (hnd : js.Nodup) (hL : ∀ (k : Nat) (T : Th), L'[k]? = some T → ∃ i, js[k]? = some i ∧ L[i]? = some T) : Sep w0 L' w := by
  obtain ⟨ok, h1, h2, h3, h4⟩ := h
  refine ⟨fun k b => ∃ i, js[k]? = some i ∧ ok i b, fun k T hT => ?_, fun k l b hkl hk hl => ?_, fun k b hk => ?_, h4⟩
  · obtain ⟨i, hi, hTi⟩ := hL k T hT
    have e : (fun b => ∃ i, js[k]? = some i ∧ ok i b) = ok i := by
      funext b
      exact propext ⟨fun ⟨i', hi', hb⟩ => by rw [hi] at hi'; cases hi'; exact hb, fun hb => ⟨i, hi, hb⟩⟩
    show T.P (fun b => ∃ i, js[k]? = some i ∧ ok i b) w
    rw [e]
    exact h1 i T hTi
  · obtain ⟨i, hi, hbi⟩ := hk
    obtain ⟨j, hj, hbj⟩ := hl
    refine h2 i j b (fun e => hkl ?_) hbi hbj
    subst e
    obtain ⟨hk1, hk2⟩ := List.getElem?_eq_some_iff.1 hi
    obtain ⟨hl1, hl2⟩ := List.getElem?_eq_some_iff.1 hj
    exact nodup_inj hnd hk1 hl1 (hk2.trans hl2.symm)
  · obtain ⟨i, -, hb⟩ := hk
    exact h3 i b hb
theorem Sep.pickL (h : Sep w0 L w) (js : List Nat) (hnd : js.Nodup) (hL : L'.map some = js.map (fun i => L[i]?)) : Sep w0 L' w :=
  h.pick js hnd fun k T hT => by
    have h1 := congrArg (fun l => l[k]?) hL
    simp only [List.getElem?_map, hT, Option.map_some] at h1
    cases hj : js[k]? with
    | none => rw [hj] at h1; cases h1
    | some i => rw [hj] at h1; exact ⟨i, rfl, (Option.some.inj h1).symm⟩
theorem Sep.head (h : Sep w0 L w) (n : Nat) : Sep w0 (L.take n) w := by
  obtain ⟨ok, h1, h2, h3, h4⟩ := h
  refine ⟨ok, fun k T hT => h1 k T ?_, h2, h3, h4⟩
  rw [List.getElem?_take] at hT
  split at hT
  · exact hT
  · cases hT
end
theorem perm_lift {α β : Type} (f : α → β) : ∀ {m l' : List β}, m.Perm l' → ∀ l : List α, l.map f = m → ∃ z : List α, z.Perm l ∧ z.map f = l' := by
  intro m l' h
  induction h with
  | nil => intro l hl; exact ⟨l, .refl _, hl⟩
  | cons x _ ih =>
    intro l hl
    cases l with
    | nil => simp at hl
    | cons y t =>
      obtain ⟨h1, h2⟩ := List.cons.inj hl
      obtain ⟨z, hz, e⟩ := ih t h2
      exact ⟨y :: z, hz.cons y, by rw [List.map_cons, e, h1]⟩
  | swap x y t =>
    intro l hl
    match l, hl with
    | a :: b :: r, hl =>
      obtain ⟨h1, h2⟩ := List.cons.inj hl
      obtain ⟨h3, h4⟩ := List.cons.inj h2
      exact ⟨b :: a :: r, .swap _ _ _, by rw [List.map_cons, List.map_cons, h1, h3, h4]⟩
  | trans _ _ ih1 ih2 =>
    intro l hl
    obtain ⟨z1, p1, e1⟩ := ih1 l hl
    obtain ⟨z2, p2, e2⟩ := ih2 z1 e1
    exact ⟨z2, p2.trans p1, e2⟩
theorem Sep.init_ {w0 w : World} {L : List Th} (h : Sep w0 L w) (L' : List Th) (T : Th) (e : L = L' ++ [T]) : Sep w0 L' w := (e ▸ h).init
theorem Sep.perm {w0 w : World} {L L' : List Th} (h : Sep w0 L w) (hp : L.Perm L') : Sep w0 L' w := by
  obtain ⟨z, hz, e⟩ := perm_lift Prod.fst hp L.zipIdx (by simp)
  have hnd : (z.map Prod.snd).Nodup := (hz.map Prod.snd).nodup_iff.2 (by rw [List.zipIdx_map_snd]; exact List.nodup_range')
  refine h.pick (z.map Prod.snd) hnd fun k T hT => ?_
  rw [← e, List.getElem?_map] at hT
  cases hk : z[k]? with
  | none => rw [hk] at hT; cases hT
  | some q =>
    rw [hk] at hT
    obtain rfl : q.1 = T := Option.some.inj hT
    have hm : q ∈ L.zipIdx := hz.mem_iff.1 (List.mem_of_getElem? hk)
    refine ⟨q.2, by rw [List.getElem?_map, hk]; rfl, ?_⟩
    obtain ⟨T, i⟩ := q
    have := List.mem_zipIdx_iff_getElem?.1 hm
    simpa using this
theorem at3 {α : Type} (a b c : α) (M r : List α) (x : α) : (a :: b :: c :: (M ++ x :: r))[M.length + 3]? = some x := by simp
theorem set3 {α : Type} (a b c : α) (M r : List α) (x y : α) : (a :: b :: c :: (M ++ x :: r)).set (M.length + 3) y = a :: b :: c :: (M ++ y :: r) := by simp
theorem at4 {α : Type} (a b c : α) (M r : List α) (x y : α) : (a :: b :: c :: (M ++ x :: y :: r))[M.length + 4]? = some y := by
  have := at3 a b c (M ++ [x]) r y
  simp at this ⊢
theorem at5 {α : Type} (a b c : α) (M r : List α) (x y z : α) : (a :: b :: c :: (M ++ x :: y :: z :: r))[M.length + 5]? = some z := by simp
theorem take5 {α : Type} (a b c : α) (M : List α) (x y z : α) : (a :: b :: c :: (M ++ x :: y :: [z])).take (M.length + 5) = a :: b :: c :: (M ++ x :: [y]) := by
  show a :: b :: c :: List.take (M.length + 2) (M ++ x :: y :: [z]) = _
  rw [show M ++ x :: y :: [z] = (M ++ x :: [y]) ++ [z] by simp, List.take_left' (by simp)]
theorem take4 {α : Type} (a b c : α) (M : List α) (x y : α) : (a :: b :: c :: (M ++ x :: [y])).take (M.length + 4) = a :: b :: c :: (M ++ [x]) := by
  show a :: b :: c :: List.take (M.length + 1) (M ++ x :: [y]) = _
  rw [show M ++ x :: [y] = (M ++ [x]) ++ [y] by simp, List.take_left' (by simp)]
def blkT (g : Nat) (cells : Array Value) (t : TypeId) : Th :=
  ⟨fun ok w => ok g ∧ w.heap[g]? = some (.cells cells t (0, 0)), fun h hm => ⟨h.1, (hm g h.1 (blk_lt h.2)).trans h.2⟩, fun h => ⟨⟨h.1, blk_lt h.2⟩, h.2⟩⟩
section
variable {w0 w w' : World} {L : List Th} {g : Nat} {cells cells' : Array Value} {t : TypeId}
theorem Sep.blk (h : Sep w0 L w) (i : Nat) (hi : L[i]? = some (blkT g cells t)) : w.heap[g]? = some (.cells cells t (0, 0)) ∧ w0.heap.size ≤ g := by
  obtain ⟨ok, h1, h2, _⟩ := h.op i _ hi
  exact ⟨h1.2, h2 g h1.1⟩
theorem Sep.blk_chg (h : Sep w0 L w) (i : Nat) (hi : L[i]? = some (blkT g cells t)) (hc : w'.heap[g]? = some (.cells cells' t (0, 0))) (hch : Chg (fun b => b = g) w w') :
    Sep w0 (L.set i (blkT g cells' t)) w' := by
  obtain ⟨ok, h1, h2, h3⟩ := h.op i _ hi
  exact h3 w' (blkT g cells' t) ok ⟨h1.1, hc⟩ (fun b hb => .inl hb) (hch.mono (fun k _ hk => by rw [hk]; exact h1.1))
theorem Sep.blk_set (h : Sep w0 L w) (i : Nat) (hi : L[i]? = some (blkT g cells t)) (j : Nat) (u : Value) (hc : cells' = cells.setIfInBounds j u) : Sep w0 (L.set i (blkT g cells' t)) (w.setCell ⟨g, j, none⟩ u) := by
  subst hc
  exact h.blk_chg i hi (Go.Proofs.YtiggjbclbdikmaaDoorW.PrintWords.blk_set (h.blk i hi).1 j u) ((Chg.refl (fun b => b = g) w).setCell (p := ⟨g, j, none⟩) (.inl rfl) u)
theorem Sep.blk_new (h : Sep w0 L w) (cells : Array Value) (t : TypeId) : Sep w0 (L ++ [blkT w.heap.size cells t]) (w.alloc (.cells cells t)) :=
  h.new (blkT w.heap.size cells t) (ok := fun b => b = w.heap.size) ⟨rfl, heap_alloc_new w _⟩ (fun b hb => by rw [hb]; exact Nat.le_refl _) (below_alloc (Below.refl _ _) _)
theorem Sep.rows {α : Type} {d : Kd α} {e base : Nat} {A : Option Addr} {m c : Nat} {xs : List α} (h : Sep w0 L w) (i : Nat) (hi : L[i]? = some (rowT d e base (.slice A m c) xs)) : m = xs.length ∧ m ≤ c ∧ d.C w A m xs := by
  obtain ⟨ok, h1⟩ := h.one i _ hi
  have := Kd.R_reads' (show d.R e w base ok (.slice A m c) xs from h1)
  exact ⟨this.1, this.2.1, this.1 ▸ this.2.2⟩
theorem Sep.let_go {α : Type} (d : Kd α) (e base : Nat) {T : Th} (h : Sep w0 L w) (i : Nat) (hi : L[i]? = some T) : Sep w0 (L.set i (rowT d e base (.slice none 0 0) [])) w := by
  obtain ⟨ok, h1, h2, h3⟩ := h.op i T hi
  exact h3 w (rowT d e base (.slice none 0 0) []) (fun _ => False) (Kd.R_nil d e w base _) (fun _ hb => hb.elim) (Chg.refl ok w)
theorem Sep.newR {α : Type} {d : Kd α} {e : Nat} (h : Sep w0 L w) {v : Value} {xs : List α} (p1 : d.R e w' w.heap.size (fun _ => True) v xs) (p2 : Below w.heap.size w w') : Sep w0 (L ++ [rowT d e w0.heap.size v xs]) w' :=
  h.new (rowT d e w0.heap.size v xs) (ok := fun b => w.heap.size ≤ b) (Kd.R_lower (Kd.R_mono (Kd.R_bound p1) (fun k hk => hk.2.1)) h.below.size) (fun _ hb => hb) p2
end
end Go.Proofs.YtiggjbclbdikmaaDoor.Fm
