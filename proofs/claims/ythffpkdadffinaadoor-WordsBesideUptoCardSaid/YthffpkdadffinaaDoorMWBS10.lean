/-
  Several texts of this claim in one: what its law's proof uses.
-/
import Derived.Test.YthffpkdadffinaaDoorMWBS9
import Derived.Test.YthffpkdadffinaaDoorMWBS2
import Derived.Test.YthffpkdadffinaaDoorMWBS8
import Derived.Test.YthffpkdadffinaaDoorMWBS6
import Derived.Deep.RegionHeld3
import Derived.Deep.DeepCutAuto
import Derived.BigQuiet
namespace Go.Proofs.YthffpkdadffinaaDoor.X
set_option linter.unusedVariables false
set_option linter.unusedSimpArgs false
open Go.RowKit YthffpkdadffinaaDoorW.PrintWords YthffpkdadffinaaDoorW.PrintLast YthffpkdadffinaaDoorW.PrintMore Ux Ud
def runesOf (s : ByteArray) : List Int := (full (bytesOf s)).map (·.f0)
def norm_Runes.f (a0 : ByteArray) : Option (List Int) := if a0.size ≤ 1000000000 then some (runesOf a0) else none
theorem bytesOf_Bytes (s : ByteArray) : Bytes (bytesOf s) := fun x hx => by
  unfold bytesOf at hx; obtain ⟨b, _, rfl⟩ := List.mem_map.1 hx; have := b.toNat_lt; omega
set_option maxHeartbeats 8000000 in
set_option maxRecDepth 100000 in
theorem norm_Runes.calls (a0 : ByteArray) (r : List Int) (w : World) (h : norm_Runes.f a0 = some r) :
    Calls Tryd.prog 72 #[.string a0] w fun e w' => ∃ v0_ : Value, e = .returned (v0_) ∧ Kd.R (Kd.int .i32) 21 w' w.heap.size (fun _ => True) v0_ r ∧ Below w.heap.size w w' := by
  unfold norm_Runes.f at h; split at h
  case isFalse => exact absurd h (by simp)
  case isTrue hl =>
    have h := Option.some.inj h; have HR := Aside0.mk h.symm; (have hl2 : a0.size ≤ 9223372036854775807 := by omega); have HL := Aside0.mk hl; have HL2 := Aside0.mk hl2; clear h hl hl2; (have kb := fun W => print_bytes (P := Tryd.prog) 9 23 5 Tryd.underlying9 Tryd.underlying23 Tryd.underlying5 a0 W); have HB := Aside0.mk (Below.refl w.heap.size w); go_enter Tryd.func72, Tryd.ntmps72; go_wp2_with (first | (go_at_call 93; go_must (refine (Decode (Lib.bytesWorld w 5 a0) _ _ _ (bytesOf a0) (bytes_reads w 5 a0 HL2.out) (bytesOf_Bytes a0) HL.out).mono ?_; rintro e w1 ⟨A, c, rfl, p0, p1, p2⟩; have HC := Aside0.mk p0; have HO := Aside0.mk (Kd.R_lower p1 (bytes_below (Below.refl w.heap.size w) (Nat.le_refl _) 5 a0).size); have HB1 := Aside0.mk ((bytes_below (Below.refl w.heap.size w) (Nat.le_refl _) 5 a0).trans (p2.mono (bytes_below (Below.refl w.heap.size w) (Nat.le_refl _) 5 a0).size)); clear p0 p1 p2))); have hlen : (full (bytesOf a0)).length ≤ 1000000000 := Nat.le_trans (full_len _) (by rw [bytesOf_length]; exact HL.out); have HLN := Aside0.mk hlen; obtain ⟨ps, hps⟩ : ∃ ps, ps = full (bytesOf a0) := ⟨_, rfl⟩; rw [← hps] at HC HO HLN ⊢; have HR2 := Aside0.mk (show r = ps.map (·.f0) by rw [HR.out, hps]; rfl); clear hps HR hlen; go_loopw [3, 10] (fun v3 v10 w' => ∃ (i : Nat) (xs : List Int), v10 = .int .i64 i ∧ i ≤ ps.length ∧ Aside0 (xs = (ps.take i).map (·.f0)) ∧ Aside0 (Kd.R (Kd.int .i32) 21 w' w.heap.size (fun _ => True) v3 xs) ∧ Aside0 (Kd.R k103 103 w' w.heap.size (fun _ => True) (.slice A ps.length c) ps) ∧ Aside0 (Below w.heap.size w w')) (fun _ v10 _ => ps.length - (intOf v10).toNat)
    case atStart => exact ⟨0, [], rfl, Nat.zero_le _, ⟨by simp⟩, ⟨Kd.R_nil _ _ _ _ _⟩, HO, HB1⟩
    case round =>
      clear HO HB1; obtain ⟨i, xs, rfl, hi, HX, HO_3, HO_4, HB1⟩ := hrel; by_cases hlt : i < ps.length
      · have hd : decide ((i : Int) < (ps.length : Int)) = true := decide_eq_true (by omega); have hd2 : decide (i < ps.length) = true := decide_eq_true hlt; obtain ⟨ad, rfl, h1, h2, h3⟩ := at_T103 (Kd.R_reads' HO_4.out).2.2 (i : Int) (by omega) (by omega); (have hrd : rd_T103 ps (i : Int) = ps[i] := by unfold rd_T103; simp [List.getD_eq_getElem?_getD, List.getElem?_eq_getElem hlt]); rw [hrd] at h1 h2 h3; simp only [Int.toNat_natCast] at h1 h2 h3; have hpl := HLN.out; (have hn0 : (0 : Int) ≤ (i : Int) := by omega); (have hn1 : (i : Int) < (ps.length : Int) := by omega); obtain ⟨y, hy⟩ : ∃ y : List Int, y = xs ++ [ps[i].f0] := ⟨_, rfl⟩; have HY := Aside0.mk hy; have LM := Aside0.mk (show xs.length < 35184372088832 by have := HLN.out; rw [HX.out, List.length_map, List.length_take]; omega); have HXl := Aside0.mk (show y = (ps.take (i + 1)).map (·.f0) by rw [hy, HX.out, List.take_succ_eq_append_getElem hlt, List.map_append]; rfl); clear hy hrd; go_wp2_with (first | (at_builtin; go_must (refine Kd.R_append (Kd.int .i32) (w0 := w) w.heap.size rfl (.tmp 14) (.tmp 17) 42 21 (.int .i32 0) 4 rfl Tryd.underlying42 info21 rfl (by decide) (by omega) u3 xs (ps[i].f0) [.int .i32 (ps[i].f0)] (fun _ => True) (fun _ => False) rfl (congrArg (fun k => Value.slice (some ⟨k, 0, none⟩) 1 1) (Array.size_push _).symm) ?aP (fun _ hk => hk.elim) ?aF ?aO ?aB ?aS ?aL ?_; (case aP => exact rfl); (case aB => exact (by repeat (first | (with_reducible first | exact HB1.out | apply below_alloc | apply pw_below_drewN | apply below_drew1) | exact HB1.out))); (case aF => exact (fun _ _ => trivial)); (case aO => exact (by (with_reducible repeat (first | apply Kd.R_alloc | apply Kd.R_drewN | apply Kd.R_drew)); exact HO_3.out)); (case aS => exact (below_size (by repeat (first | (with_reducible first | exact HB1.out | apply below_alloc | apply pw_below_drewN | apply below_drew1) | exact HB1.out)))); (case aL => have := LM.out; omega); intro v287 w8 ho hb hg hat; rw [← HY.out] at ho; have n0_ := Aside0.mk (Kd.R_over' (by (with_reducible repeat (first | apply Kd.R_alloc | apply Kd.R_drewN | apply Kd.R_drew)); exact HO_4.out) (Kd.R_typed (by (with_reducible repeat (first | apply Kd.R_alloc | apply Kd.R_drewN | apply Kd.R_drew)); exact HO_3.out)) (by decide) hg); have n1_ := Aside0.mk (hb); have n2_ := Aside0.mk (ho); clear HO_4; clear HB1; clear HO_3; have HO_4 := n0_; have HB1 := n1_; have HO288 := n2_; clear n0_ n1_ n2_; clear ho hb hg hat))); go_roundw
        case rel => exact ⟨i + 1, y, by first | go_num | (rw [show wrap64 ((i : Int) + 1) = ((i + 1 : Nat) : Int) by rw [wrap64_in] <;> omega]), by omega, HXl, HO288, HO_4, HB1⟩
        case measure => simp [intOf] <;> omega
      · have hd : decide ((i : Int) < (ps.length : Int)) = false := decide_eq_false (by omega); have hd2 : decide (i < ps.length) = false := decide_eq_false hlt; go_wp2; go_ret; refine ⟨_, rfl, ?_, HB1.out⟩; have h := HX.out; rw [show i = ps.length by omega, List.take_length] at h; rw [HR2.out, ← h]; exact HO_3.out
end Go.Proofs.YthffpkdadffinaaDoor.X
namespace Go.Proofs.YthffpkdadffinaaDoor.X
open Go.RowKit YthffpkdadffinaaDoorW.PrintWords YthffpkdadffinaaDoorW.PrintLast YthffpkdadffinaaDoorW.PrintMore
attribute [local go_sem] max2_int min2_int max_two min_two max_three min_three max_four min_four   
set_option linter.unusedVariables false
set_option linter.unusedSimpArgs false
def tremaref01_Runes.l0 : Nat → List Int → List (S103) → Int → Option (List Int)
 | 0, _, _, _ => none
 | k + 1, x3, x4, x5 => if x5 < (x4.length : Int) then (if 0 ≤ x5 then (if x3.length < 35184372088832 then (tremaref01_Runes.l0 k (x3 ++ [(rd_T103 x4 x5).f0]) x4 (wrap64 (x5 + 1))) else (none)) else (none)) else (some x3)
def tremaref01_Runes.f (k : Nat) (l0 : List Int) : Option (List Int) := (tremaref01_Decode.f k l0 false).bind fun t203 => (tremaref01_Runes.l0 k ([] : List Int) t203 0)
theorem tremaref01_Runes.mono_l : ∀ k, (∀ y0 y1 y2, LeO (tremaref01_Runes.l0 k y0 y1 y2) (tremaref01_Runes.l0 (k + 1) y0 y1 y2))
 | 0 => fun _ _ _ r h => by simp [tremaref01_Runes.l0] at h
 | k + 1 => by
  have ih0 := tremaref01_Runes.mono_l k
  ·intro y0 y1 y2; unfold tremaref01_Runes.l0; repeat' first | (with_reducible exact ih0 _ _ _) | (with_reducible exact tremaref01_Decode.mono _ _ _) | (with_reducible exact LeO.refl _) | (with_reducible exact LeO.none _) | (with_reducible refine LeO.ite ?_ ?_) | (with_reducible refine LeO.bind ?_ (fun _ => ?_)) | exact ih0 _ _ _ | exact tremaref01_Decode.mono _ _ _ | exact LeO.none _ | refine LeO.ite ?_ ?_ | refine LeO.bind ?_ (fun _ => ?_)
theorem tremaref01_Runes.mono : ∀ a0 k, LeO (tremaref01_Runes.f k a0) (tremaref01_Runes.f (k + 1) a0) := by
 intro a0 k; have ih0 := tremaref01_Runes.mono_l k; unfold tremaref01_Runes.f; repeat' first | (with_reducible exact ih0 _ _ _) | (with_reducible exact tremaref01_Decode.mono _ _ _) | (with_reducible exact LeO.refl _) | (with_reducible exact LeO.none _) | (with_reducible refine LeO.ite ?_ ?_) | (with_reducible refine LeO.bind ?_ (fun _ => ?_)) | exact ih0 _ _ _ | exact tremaref01_Decode.mono _ _ _ | exact LeO.none _ | refine LeO.ite ?_ ?_ | refine LeO.bind ?_ (fun _ => ?_)
set_option maxHeartbeats 8000000 in
set_option maxRecDepth 100000 in
theorem tremaref01_Runes.calls (k : Nat) (A0 : Option Addr) (c0 : Nat) (l0 : List Int) (r : List Int) (w : World) (hr0 : Kd.C (Kd.int .u8) w A0 l0.length l0) (hc0 : l0.length ≤ c0) (h : tremaref01_Runes.f k l0 = some r) :
  Calls Tryd.prog 36 #[.slice A0 l0.length c0] w fun e w' => ∃ v0_ : Value, e = .returned (v0_) ∧ Kd.R (Kd.int .i32) 21 w' w.heap.size (fun _ => True) v0_ r ∧ Below w.heap.size w w' := by
 have HR0 := Aside0.mk hr0; have HC0 := Aside0.mk hc0; clear hr0 hc0; have HB := Aside0.mk (Below.refl w.heap.size w); have H : ((tremaref01_Decode.f k l0 false).bind fun t203 => (tremaref01_Runes.l0 k ([] : List Int) t203 0)) = some r := h; clear h; replace H := Option.bind_eq_some_iff.mp H; obtain ⟨t203, A20, H⟩ := H; (try dsimp only at H); have A2 := Aside0.mk A20; clear A20; have H' := Aside0.mk H; clear H; go_enter Tryd.func36, Tryd.ntmps36; go_wp2_with (first | ((with_reducible refine gate_callee (f := 47) rfl ?_); refine goesL_ (some 7) rfl rfl Tryd.func47 (by kernel_rfl) rfl #[.slice A0 l0.length c0, .bool false] rfl (by (try simp only [List.map_toArray, List.map_cons, List.map_nil]); first | done | rfl | (simp only [List.length_drop, List.length_take]; rfl)) ?_; (with_reducible refine (tremaref01_Decode.calls k _ _ l0 false t203 _ ?side1 ?side2 A2.out).mono ?_); (case side1 => repeat (first | exact HR0.out | (with_reducible refine Kd.C_alloc ?_ _) | (with_reducible refine Kd.C_drewN ?_ _) | (with_reducible refine Kd.C_drew ?_))); (case side2 => exact HC0.out); rintro e w3 ⟨v204, rfl, ho0, hb⟩; refine ⟨_, rfl, ?_⟩; have n0_ := Aside0.mk (Kd.R_lower ho0 (below_size (by repeat (first | (with_reducible first | exact HB.out | apply below_alloc | apply pw_below_drewN | apply below_drew1) | exact HB.out)))); have n1_ := Aside0.mk (below_step (by repeat (first | (with_reducible first | exact HB.out | apply below_alloc | apply pw_below_drewN | apply below_drew1) | exact HB.out)) hb); clear HB; have HO205 := n0_; have HB := n1_; clear n0_ n1_; (try clear hb); (try clear hb2); (try clear hk); (try clear hi); (try clear ho0))); go_loopg [3, 5] k (fun kq v3 v5 w' => ∃ (x3_1 : List Int) (x5_1 : Int), v5 = .int .i64 x5_1 ∧ Aside0 (tremaref01_Runes.l0 kq x3_1 t203 x5_1 = some r) ∧ Aside0 (kq ≤ k) ∧ Aside0 (Kd.R (Kd.int .i32) 21 w' w.heap.size (fun _ => True) v3 x3_1) ∧ Aside0 (Kd.R k103 103 w' w.heap.size (fun _ => True) v204 t203) ∧ Aside0 (Below w.heap.size w w'))
 case atStart => exact ⟨(([] : List Int)), (0), (by first | rfl | (simp; done) | (simp [*]; done)), H', ⟨Nat.le_refl _⟩, ⟨by first | exact Kd.R_nil _ _ _ _ _ | exact Kd.N_nil _ _ _ _ _ | exact Kd.V_nil _ _ _ _ _ | exact Kd.Q_nil _ _ _ _ _ | exact Kd.S_nil _ _ _ _ _⟩, ⟨by (with_reducible repeat (first | apply Kd.R_alloc | apply Kd.R_drewN | apply Kd.R_drew)); exact HO205.out⟩, ⟨by repeat (first | (with_reducible first | exact HB.out | apply below_alloc | apply pw_below_drewN | apply below_drew1) | exact HB.out)⟩⟩
 case round =>
  clear H'; (try clear p2); (try clear c3); obtain ⟨x3_1, x5_1, rfl, HA, HK1, HO_3, HO_4, HB⟩ := hrel
  cases gk with
  | zero => exact absurd HA.out (by simp [tremaref01_Runes.l0])
  | succ k1 =>
   have H := HA.out; clear HA; simp only [tremaref01_Runes.l0] at H; by_cases c4 : x5_1 < (t203.length : Int)
   ·rw [if_pos c4] at H; have c4b0 : decide (x5_1 < (t203.length : Int)) = true := decide_eq_true c4; clear c4; by_cases c5 : 0 ≤ x5_1
    ·rw [if_pos c5] at H; have c5b0 : decide (0 ≤ x5_1) = true := decide_eq_true c5; clear c5; by_cases c6 : x3_1.length < 35184372088832
     ·rw [if_pos c6] at H; have LMc6 := Aside0.mk c6; clear c6; obtain ⟨y207, hy207⟩ : ∃ y_ : List Int, y_ = (x3_1 ++ [(rd_T103 t203 x5_1).f0]) := ⟨_, rfl⟩; (replace H : (tremaref01_Runes.l0 k1 y207 t203 (wrap64 (x5_1 + 1))) = some r := by first | (rw [hy207]; with_reducible exact H) | (have H2_ := (Option.bind_some _ _).symm.trans H; rw [hy207]; with_reducible exact H2_) | (have H2_ := (Option.bind_some _ _).symm.trans H; with_reducible exact H2_) | with_reducible exact H | (rw [hy207]; exact H) | exact H); have Ny207 := Aside0.mk hy207; clear hy207; have H' := Aside0.mk H; clear H; obtain ⟨Ao7, co7, eo7⟩ := Kd.R_slice HO_4.out; subst eo7; have p206 : 0 ≤ (x5_1 : Int) := of_decide_eq_true (by first | (with_reducible assumption) | assumption); have q206 : x5_1 < (t203.length : Int) := of_decide_eq_true (by first | (with_reducible assumption) | assumption); obtain ⟨ad206, e206, hx206_0, hx206_1, hx206_2⟩ := at_T103 (Kd.R_reads' HO_4.out).2.2 x5_1 p206 q206; cases e206; replace p206 := eq_true p206; replace q206 := eq_true q206; go_wp2_with (first | ((with_reducible refine gate_builtin (b := .append) (xs := #[.tmp 14, .tmp 20]) rfl ?_); at_builtin; refine Kd.R_append (Kd.int .i32) (w0 := w) w.heap.size rfl (.tmp 14) (.tmp 20) 42 21 (.int .i32 0) 4 rfl Tryd.underlying42 info21 rfl (by decide) (by omega) u3 x3_1 ((rd_T103 t203 x5_1).f0) [.int .i32 ((rd_T103 t203 x5_1).f0)] (fun _ => True) (fun _ => False) rfl rfl ?aP (fun _ hk => hk.elim) ?aF ?aO ?aB ?aS ?aL ?_; (case aP => exact rfl); (case aB => exact (by repeat (first | (with_reducible first | exact HB.out | apply below_alloc | apply pw_below_drewN | apply below_drew1) | exact HB.out))); (case aF => exact (fun _ _ => trivial)); (case aO => exact (by (with_reducible repeat (first | apply Kd.R_alloc | apply Kd.R_drewN | apply Kd.R_drew)); exact HO_3.out)); (case aS => exact (below_size (by repeat (first | (with_reducible first | exact HB.out | apply below_alloc | apply pw_below_drewN | apply below_drew1) | exact HB.out)))); (case aL => have := LMc6.out; omega); intro v208 w8 ho hb hg hat; rw [← Ny207.out] at ho; have n0_ := Aside0.mk (Kd.R_over' (by (with_reducible repeat (first | apply Kd.R_alloc | apply Kd.R_drewN | apply Kd.R_drew)); exact HO_4.out) (Kd.R_typed (by (with_reducible repeat (first | apply Kd.R_alloc | apply Kd.R_drewN | apply Kd.R_drew)); exact HO_3.out)) (by decide) hg); have n1_ := Aside0.mk (hb); have n2_ := Aside0.mk (ho); clear HO_4; clear HB; clear HO_3; have HO_4 := n0_; have HB := n1_; have HO209 := n2_; clear n0_ n1_ n2_; clear ho hb hg hat)); go_roundg k1
      case measure => have := HK1.out; omega
      case rel => exact ⟨(y207), (wrap64 (x5_1 + 1)), (by first | rfl | (simp; done) | (simp [*]; done)), H', ⟨by have := HK1.out; omega⟩, ⟨by (with_reducible repeat (first | apply Kd.R_alloc | apply Kd.R_drewN | apply Kd.R_drew)); exact HO209.out⟩, ⟨by (with_reducible repeat (first | apply Kd.R_alloc | apply Kd.R_drewN | apply Kd.R_drew)); exact HO_4.out⟩, ⟨by repeat (first | (with_reducible first | exact HB.out | apply below_alloc | apply pw_below_drewN | apply below_drew1) | exact HB.out)⟩⟩
     ·rw [if_neg c6] at H; exact absurd H (by simp)
    ·rw [if_neg c5] at H; exact absurd H (by simp)
   ·rw [if_neg c4] at H; have c4b0 : decide (x5_1 < (t203.length : Int)) = false := decide_eq_false c4; clear c4; obtain rfl := Option.some.inj H; obtain ⟨Ao9, co9, eo9⟩ := Kd.R_slice HO_4.out; subst eo9; go_wp2; go_ret; exact ⟨_, by first | rfl | (simp [errW_none, errW_some] <;> rfl) | (simp [*, errW_none, errW_some] <;> rfl), by (with_reducible repeat (first | apply Kd.R_alloc | apply Kd.R_drewN | apply Kd.R_drew)); exact HO_3.out, by repeat (first | (with_reducible first | exact HB.out | apply below_alloc | apply pw_below_drewN | apply below_drew1) | exact HB.out)⟩
end Go.Proofs.YthffpkdadffinaaDoor.X
namespace Go.Proofs.YthffpkdadffinaaDoor.Ot
set_option linter.unusedVariables false
set_option linter.unusedSimpArgs false
open Go.RowKit YthffpkdadffinaaDoorW.PrintWords Ev0 X Ux Va Ve Vp0 Vr Vu Na Oa Ob
theorem wf_bytes {xs : List Int} (h : ∀ x, x ∈ xs → (Lit.int .u8 x).wf = true) : Bytes xs := fun x hx => by
  have := h x hx
  simpa [Lit.wf, IntKind.min, IntKind.max, IntKind.signed, IntKind.bits] using this
theorem bytes_str (l : List Int) (hb : Bytes l) : bytesOf (strOfNums l) = l := by
  unfold bytesOf; rw [strOfNums_data, List.map_map]
  conv => rhs; rw [← List.map_id l]
  (refine List.map_congr_left fun x hx => ?_); have := hb x hx; (show (((UInt8.ofNat x.toNat).toNat : Nat) : Int) = x); rw [UInt8.toNat_ofNat']; omega
theorem cont_range : ∀ (bs : List (Int × Int)) (t : List Int) (r i : Int), 0 ≤ r → 0 ≤ (cont bs t r i).1 ∧ ((cont bs t r i).1 = 65533 ∨ (cont bs t r i).1 < (r + 1) * 64 ^ bs.length)
  | [], t, r, i, h => by simp only [cont, List.length_nil, Int.pow_zero, Int.mul_one]; omega
  | b :: bs, [], r, i, h => ⟨show (0 : Int) ≤ 65533 by decide, .inl rfl⟩
  | (lo, hi) :: bs, x :: t, r, i, h => by
    simp only [cont]; split
    · exact ⟨show (0 : Int) ≤ 65533 by decide, .inl rfl⟩
    · (have hx : 0 ≤ x % 64 ∧ x % 64 < 64 := by omega); have h1 := cont_range bs t (r * 64 + x % 64) (i + 1) (by omega); refine ⟨h1.1, h1.2.imp id fun h2 => Int.lt_of_lt_of_le h2 ?_⟩; rw [List.length_cons, Int.pow_succ, Int.mul_comm (64 ^ bs.length) 64, ← Int.mul_assoc]; exact Int.mul_le_mul_of_nonneg_right (by omega) (Int.le_of_lt (Int.pow_pos (by decide)))
theorem one1_32 (c : Int) (t : List Int) (hc : 0 ≤ c ∧ c ≤ 255) : I32 (one1 c t).1 := by
  unfold one1 I32
  cases h : bnd c with
  | none => simp
  | some bs =>
    have hl := bnd_len h; (have hs : 0 ≤ st c ∧ st c ≤ 127 := by unfold st; repeat' split <;> omega); have h1 := cont_range bs t (st c) 1 hs.1
    have h2 : (st c + 1) * 64 ^ bs.length ≤ 128 * 64 ^ 3 := by
      refine Int.mul_le_mul (by omega) ?_ (Int.le_of_lt (Int.pow_pos (by decide))) (by decide)
      have : (64 : Int) ^ bs.length ≤ 64 ^ 3 := by
        rcases (show bs.length = 0 ∨ bs.length = 1 ∨ bs.length = 2 ∨ bs.length = 3 by omega) with e | e | e | e <;> rw [e] <;> decide
      exact this
    (have h3 : (128 : Int) * 64 ^ 3 = 33554432 := by decide); rw [h3] at h2; (show -2147483648 ≤ (cont bs t (st c) 1).1 ∧ (cont bs t (st c) 1).1 ≤ 2147483647); omega
theorem dec_32 : ∀ (k : Nat) (b : List Int) (p : Int), Bytes b → ∀ y ∈ (dec k b p).1, I32 y.f0
  | 0, b, p, _, y, hy => by simp [dec] at hy
  | k + 1, [], p, _, y, hy => by simp [dec] at hy
  | k + 1, c :: t, p, hb, y, hy => by
    have hc := hb c (List.mem_cons_self ..); simp only [dec] at hy; split at hy
    · simp at hy
    · rcases List.mem_cons.1 hy with rfl | hy
      · exact one1_32 c t hc
      · exact dec_32 k _ _ (fun x hx => hb x (List.mem_of_mem_drop hx)) y hy
theorem runes32 (l : List Int) (hb : Bytes l) : ∀ x ∈ (full l).map (·.f0), I32 x := by
  intro x hx; obtain ⟨y, hy, rfl⟩ := List.mem_map.1 hx; rcases List.mem_append.1 hy with hy | hy
  · exact dec_32 _ _ _ hb y hy
  · unfold rest1 at hy; split at hy
    · simp at hy
    · rw [List.mem_singleton.1 hy]; show -2147483648 ≤ (65533 : Int) ∧ (65533 : Int) ≤ 2147483647; decide
def rns (l : List Int) : List Int := (full l).map (·.f0)
theorem runesEv (l : List Int) (hb : Bytes l) (hl : l.length ≤ 1000000000) : Ev (fun k => tremaref01_Runes.f k l) (rns l) := by
  have hfl := Ud.full_len l; unfold tremaref01_Runes.f; have hd := Ref_dec l hb (by omega) false; refine Ev.bind (Ev.of (tremaref01_Decode.mono l false) hd) ?_; obtain ⟨P, hP⟩ : ∃ P, P = full l := ⟨_, rfl⟩; (have e : (dc l 0).1 ++ (if false = true then [] else rest1 (dc l 0).2.1 (dc l 0).2.2) = P := by rw [hP]; rfl); rw [e]; unfold rns; rw [← hP] at hfl ⊢
  have key : ∀ q i : Nat, i + q = P.length → Ev (fun k => tremaref01_Runes.l0 k ((P.take i).map (·.f0)) P (i : Int)) (P.map (·.f0)) := by
    intro q
    induction q with
    | zero =>
      intro i hi; obtain rfl : i = P.length := hi; refine Ev.step (fun k => tremaref01_Runes.l0.eq_2 ..) ?_; simp only [if_neg (Int.lt_irrefl _), List.take_length]; exact Ev.now _
    | succ q ih =>
      intro i hi; (have hil : i < P.length := by omega); have ih := ih (i + 1) (by omega); rw [List.take_succ_eq_append_getElem hil, List.map_append] at ih; (have hr : rd_T103 P (i : Int) = P[i] := by unfold rd_T103; simp [List.getD_eq_getElem?_getD, List.getElem?_eq_getElem hil]); refine Ev.step (fun k => tremaref01_Runes.l0.eq_2 ..) ?_; simp only [if_pos (show (i : Int) < (P.length : Int) by omega), if_pos (show (0 : Int) ≤ (i : Int) by omega), hr, if_pos (show ((P.take i).map (·.f0)).length < 35184372088832 by rw [List.length_map, List.length_take]; omega), w64 (i := i) (by omega)]; exact ih
  exact key P.length 0 (by omega)
end Go.Proofs.YthffpkdadffinaaDoor.Ot
namespace Go.Proofs.YthffpkdadffinaaDoor.Sga
set_option linter.unusedVariables false
set_option linter.unusedSimpArgs false
open Go.Proofs.YthffpkdadffinaaDoor.Vd (decU)
open Go.Proofs.YthffpkdadffinaaDoor.Fr (K3 T3)
open Go.Proofs.YthffpkdadffinaaDoor.En (enc enc_pure enc_len enc_byte)
open Go.RowKit YthffpkdadffinaaDoorW.PrintWords Hp Fm X Va Oa Vp0 Cn
abbrev TS : Nat := 72
abbrev TG : Nat := 67
abbrev KB : Kd Int := Kd.int .u8
abbrev kG := k67
def txt (o : List Int) : ByteArray := strOfNums (enc (nrm o))
theorem EncR (w : World) (A : Option Addr) (n c : Nat) (l : List Int) (hC : K3.C w A n l) (hn : n = l.length) (hc : n ≤ c) (hl : n ≤ 1000000000) :
    Calls Tryd.prog 73 #[.slice A n c] w fun e w' => ∃ A' m c', e = .returned (.slice A' m c') ∧ m = (enc l).length ∧ m ≤ c' ∧ KB.C w' A' m (enc l) ∧ Below w.heap.size w w' := by
  subst hn; refine (utf_Encode.calls (2 * l.length + 1) A c l (enc l) w hC hc (enc_pure l (by omega))).mono ?_; rintro e w' ⟨v, rfl, p1, p2⟩; obtain ⟨A', c', rfl, hc', hC'⟩ := Kd.R_reads p1; exact ⟨A', _, c', rfl, rfl, hc', hC', p2⟩
def segCells (gd : Nat) (lim : Int) (ov : Value) (a e : Int) (cl : Bool) (er : Int) : Array Value := #[.pointer (some ⟨gd, 0, none⟩), .int .i64 lim, ov, .int .i64 a, .int .i64 e, .bool cl, .int .i64 er]
set_option maxRecDepth 100000 in
set_option maxHeartbeats 4000000 in
theorem WholeP (w : World) (hG : G w) (g gd : Nat) (lim a e er : Int) (cl : Bool) (A : Option Addr) (n c : Nat) (o : List Int) (hb : w.heap[g]? = some (.cells (segCells gd lim (.slice A n c) a e cl er) TS (0, 0))) (hC : K3.C w A n o) (hn : n = o.length) (hc : n ≤ c) (hwf : ∀ x ∈ o, I32 x) (hl : n ≤ 60000000) :
    Calls Tryd.prog 51 #[.pointer (some ⟨g, 0, none⟩)] w fun E w' => E = .returned (.agg #[.string (txt o), .int .i64 a, .int .i64 e]) ∧ Below w.heap.size w w' := by
  have hnl := nrm_len3 o hwf; obtain ⟨q, hq⟩ : ∃ q, q = (nrm o).length := ⟨_, rfl⟩; (have hq5 : q ≤ 180000000 := by omega); have HQ := Aside0.mk hq; have HN := Aside0.mk hn; have HG := Aside0.mk hG; have HC := Aside0.mk hC; have HWF := Aside0.mk hwf; have HB := Aside0.mk hb; clear hq hn hG hC hwf hb hnl; go_enter Tryd.func51, Tryd.ntmps51; go_upto_region 1 with (fail); obtain ⟨w1, hw1⟩ : ∃ w1, w1 = w.alloc (.cells #[.string ⟨#[]⟩, .int .i64 0, .int .i64 0] TG) := ⟨_, rfl⟩; have HB1 := Aside0.mk (show Below w.heap.size w w1 by rw [hw1]; exact below_alloc (Below.refl _ _) _); have HN1 := Aside0.mk (show w1.heap[w.heap.size]? = some (.cells #[.string ⟨#[]⟩, .int .i64 0, .int .i64 0] TG (0, 0)) by rw [hw1]; exact heap_alloc_new w _); rw [← hw1]; obtain ⟨r, hr⟩ : ∃ r, r = w.heap.size := ⟨_, rfl⟩; rw [← hr] at HN1 ⊢; have HR := Aside0.mk hr; clear hw1 hr; have HD := Aside0.mk (((Drawn0.refl w1).step 1).below); refine wp_region_held_drew (S := fun W => Below w.heap.size w W) (by kernel_rfl) (below_step HB1.out HD.out) (fun hS => ?_); have HL := Aside0.mk (show ∀ W, Below w.heap.size w W → W.heap[g]? = some (.cells (segCells gd lim (.slice A n c) a e cl er) TS (0, 0)) from fun W h => blk_below HB.out h); refine wpAnyH_take (i := 0) (oi := { dst := some 3, op := _, type := _, pos := _, after := _, guard := _ }) (v := .pointer (some ⟨g, 0, none⟩)) rfl (by kernel_rfl) (by kernel_rfl) (by kernel_rfl) (fun _ _ _ h => h) (Or.inl ⟨by rfl, fun W hW => ?_⟩) hS ?_
  · (go_simp)
  (try simp only [Act.put, List.setIfInBounds_toArray, List.set_cons_zero, List.set_cons_succ]); refine wpAnyH_take (i := 1) (oi := { dst := some 4, op := _, type := _, pos := _, after := _, guard := _ }) (v := .pointer (some ⟨g, 0, none⟩)) rfl (by kernel_rfl) (by kernel_rfl) (by kernel_rfl) (fun _ _ _ h => h) (Or.inl ⟨by rfl, fun W hW => ?_⟩) hS ?_
  · (go_simp)
  (try simp only [Act.put, List.setIfInBounds_toArray, List.set_cons_zero, List.set_cons_succ]); refine wpAnyH_take (i := 2) (oi := { dst := some 5, op := _, type := _, pos := _, after := _, guard := _ }) (v := .pointer (some ⟨g, 2, none⟩)) rfl (by kernel_rfl) (by kernel_rfl) (by kernel_rfl) (fun _ _ _ h => h) (Or.inl ⟨by rfl, fun W hW => ?_⟩) hS ?_
  · (go_simp)
  (try simp only [Act.put, List.setIfInBounds_toArray, List.set_cons_zero, List.set_cons_succ]); refine wpAnyH_take (i := 3) (oi := { dst := some 6, op := _, type := _, pos := _, after := _, guard := _ }) (v := .slice A n c) rfl (by kernel_rfl) (by kernel_rfl) (by kernel_rfl) (fun _ _ _ h => h) (Or.inl ⟨by rfl, fun W hW => ?_⟩) hS ?_
  · (have hcell := blk_cell (HL.out W hW) 2; simp only [segCells] at hcell; go_simp)
  (try simp only [Act.put, List.setIfInBounds_toArray, List.set_cons_zero, List.set_cons_succ]); refine wpAnyH_take (i := 7) (oi := { dst := some 10, op := _, type := _, pos := _, after := _, guard := _ }) (v := .pointer (some ⟨g, 0, none⟩)) rfl (by kernel_rfl) (by kernel_rfl) (by kernel_rfl) (fun _ _ _ h => h) (Or.inl ⟨by rfl, fun W hW => ?_⟩) hS ?_
  · (go_simp)
  (try simp only [Act.put, List.setIfInBounds_toArray, List.set_cons_zero, List.set_cons_succ]); refine wpAnyH_take (i := 8) (oi := { dst := some 11, op := _, type := _, pos := _, after := _, guard := _ }) (v := .pointer (some ⟨g, 0, none⟩)) rfl (by kernel_rfl) (by kernel_rfl) (by kernel_rfl) (fun _ _ _ h => h) (Or.inl ⟨by rfl, fun W hW => ?_⟩) hS ?_
  · (go_simp)
  (try simp only [Act.put, List.setIfInBounds_toArray, List.set_cons_zero, List.set_cons_succ]); refine wpAnyH_take (i := 9) (oi := { dst := some 12, op := _, type := _, pos := _, after := _, guard := _ }) (v := .pointer (some ⟨g, 3, none⟩)) rfl (by kernel_rfl) (by kernel_rfl) (by kernel_rfl) (fun _ _ _ h => h) (Or.inl ⟨by rfl, fun W hW => ?_⟩) hS ?_
  · (go_simp)
  (try simp only [Act.put, List.setIfInBounds_toArray, List.set_cons_zero, List.set_cons_succ]); refine wpAnyH_take (i := 10) (oi := { dst := some 13, op := _, type := _, pos := _, after := _, guard := _ }) (v := .int .i64 a) rfl (by kernel_rfl) (by kernel_rfl) (by kernel_rfl) (fun _ _ _ h => h) (Or.inl ⟨by rfl, fun W hW => ?_⟩) hS ?_
  · (have hcell := blk_cell (HL.out W hW) 3; simp only [segCells] at hcell; go_simp)
  (try simp only [Act.put, List.setIfInBounds_toArray, List.set_cons_zero, List.set_cons_succ]); refine wpAnyH_take (i := 11) (oi := { dst := some 14, op := _, type := _, pos := _, after := _, guard := _ }) (v := .pointer (some ⟨g, 0, none⟩)) rfl (by kernel_rfl) (by kernel_rfl) (by kernel_rfl) (fun _ _ _ h => h) (Or.inl ⟨by rfl, fun W hW => ?_⟩) hS ?_
  · (go_simp)
  (try simp only [Act.put, List.setIfInBounds_toArray, List.set_cons_zero, List.set_cons_succ]); refine wpAnyH_take (i := 12) (oi := { dst := some 15, op := _, type := _, pos := _, after := _, guard := _ }) (v := .pointer (some ⟨g, 0, none⟩)) rfl (by kernel_rfl) (by kernel_rfl) (by kernel_rfl) (fun _ _ _ h => h) (Or.inl ⟨by rfl, fun W hW => ?_⟩) hS ?_
  · (go_simp)
  (try simp only [Act.put, List.setIfInBounds_toArray, List.set_cons_zero, List.set_cons_succ]); refine wpAnyH_take (i := 13) (oi := { dst := some 16, op := _, type := _, pos := _, after := _, guard := _ }) (v := .pointer (some ⟨g, 4, none⟩)) rfl (by kernel_rfl) (by kernel_rfl) (by kernel_rfl) (fun _ _ _ h => h) (Or.inl ⟨by rfl, fun W hW => ?_⟩) hS ?_
  · (go_simp)
  (try simp only [Act.put, List.setIfInBounds_toArray, List.set_cons_zero, List.set_cons_succ]); refine wpAnyH_take (i := 14) (oi := { dst := some 17, op := _, type := _, pos := _, after := _, guard := _ }) (v := .int .i64 e) rfl (by kernel_rfl) (by kernel_rfl) (by kernel_rfl) (fun _ _ _ h => h) (Or.inl ⟨by rfl, fun W hW => ?_⟩) hS ?_
  · (have hcell := blk_cell (HL.out W hW) 4; simp only [segCells] at hcell; go_simp)
  (try simp only [Act.put, List.setIfInBounds_toArray, List.set_cons_zero, List.set_cons_succ]); refine wpAnyH_ready (rs := [4]) (by kernel_rfl) (by simp) ?_; refine AllReadyH.cons (o := { dst := some 7, op := _, type := _, pos := _, after := _, guard := _ }) rfl (fun K hK => ?_) AllReadyH.nil; go_simp
  (go_at_call 71)
  refine (NormR _ (HG.out.below hS) A n c o (Kd.C_below HC.out hS) HN.out hc HWF.out (by omega)).mono ?_; rintro E w2 ⟨v2, rfl, p1, p2⟩; obtain ⟨A2, c2, e2, hc2, hC2⟩ := Kd.R_reads p1; rw [← HQ.out] at e2 hc2 hC2; subst e2; have B2 := Aside0.mk (below_then HD.out HD.out.size p2); clear p1 p2; go_wp2_with fail; refine hK.out _ _ (below_step HB1.out B2.out) (fun hS2 => ?_); clear hK K hS; have hS := hS2; clear hS2; (try simp only [Act.put, List.setIfInBounds_toArray, List.set_cons_zero, List.set_cons_succ]); refine wpAnyH_ready (rs := [5]) (by kernel_rfl) (by simp) ?_; refine AllReadyH.cons (o := { dst := some 8, op := _, type := _, pos := _, after := _, guard := _ }) rfl (fun K hK => ?_) AllReadyH.nil; go_simp
  (go_at_call 73)
  refine (EncR _ A2 q c2 (nrm o) hC2 HQ.out hc2 (by omega)).mono ?_; rintro E w3 ⟨A3, m3, c3, rfl, p0, p1, p2, p3⟩; have B3 := Aside0.mk (below_then B2.out B2.out.size p3); have hcv := Sx.reads_string (P := Tryd.prog) (c := c3) Tryd.underlying23 Tryd.underlying5 Tryd.underlying9 (rdint p2); rw [show strOfNums (enc (nrm o)) = txt o from rfl] at hcv; clear p0 p1 p2 p3 B2 hC2; go_wp2_with fail; refine hK.out _ _ (below_step HB1.out B3.out) (fun hS2 => ?_); clear hK K hS; have hS := hS2; clear hS2; (try simp only [Act.put, List.setIfInBounds_toArray, List.set_cons_zero, List.set_cons_succ]); refine wpAnyH_ready (rs := [6]) (by kernel_rfl) (by simp) ?_; refine AllReadyH.cons (o := { dst := some 9, op := _, type := _, pos := _, after := _, guard := _ }) rfl (fun K hK => ?_) AllReadyH.nil; go_simp; refine hK.out _ _ hS (fun hS2 => ?_); clear hK K hS2 hcv; (try simp only [Act.put, List.setIfInBounds_toArray, List.set_cons_zero, List.set_cons_succ]); refine wpAnyH_take (i := 15) (oi := { dst := some 18, op := _, type := _, pos := _, after := _, guard := _ }) (v := .agg #[.string (txt o), .int .i64 a, .int .i64 e]) rfl (by kernel_rfl) (by kernel_rfl) (by kernel_rfl) (fun _ _ _ h => h) (Or.inl ⟨by rfl, fun W hW => ?_⟩) hS ?_
  · (go_simp)
  (try simp only [Act.put, List.setIfInBounds_toArray, List.set_cons_zero, List.set_cons_succ]); have hbk := blk_below HN1.out B3.out; have c0 := blk_cell hbk 0; have c1 := blk_cell hbk 1; have c2 := blk_cell hbk 2; have f0 := blk_frozen hbk 0; have f1 := blk_frozen hbk 1; have f2 := blk_frozen hbk 2; have k3 := blk_set (blk_set (blk_set hbk 0 (.string (txt o))) 1 (.int .i64 a)) 2 (.int .i64 e); have H3 := Aside0.mk k3
  have HS3 := Aside0.mk (show Below w.heap.size w (((w3.setCell ⟨r, 0, none⟩ (.string (txt o))).setCell ⟨r, 1, none⟩ (.int .i64 a)).setCell ⟨r, 2, none⟩ (.int .i64 e)) by
    have h1 := (Chg.of_below (below_step HB1.out B3.out) (S := fun b => b = r) (fun k h1 h2 => absurd h1 (by omega))); have hp : ∀ j : Nat, (fun b => b = r) (⟨r, j, none⟩ : Addr).block ∨ w.heap.size ≤ (⟨r, j, none⟩ : Addr).block := fun _ => .inl rfl
    exact (((h1.setCell (hp 0) _).setCell (hp 1) _).setCell (hp 2) _).below (fun k hk => ⟨hk, fun h => by have := HR.out; omega⟩))
  clear hbk k3; refine wpAnyH_ready (rs := [16]) (by kernel_rfl) (by simp) ?_; refine AllReadyH.cons (o := { dst := none, op := _, type := _, pos := _, after := _, guard := _ }) rfl (fun K hK => ?_) AllReadyH.nil; go_simp; refine hK.out _ _ HS3.out (fun hS2 => ?_); clear hK K hS hS2; refine wpAnyH_done (by kernel_rfl) ?_ _; have q0 := (blk_cell H3.out 0).trans (show _ = some (Value.string (txt o)) from rfl); have q1 := (blk_cell H3.out 1).trans (show _ = some (Value.int .i64 a) from rfl); have q2 := (blk_cell H3.out 2).trans (show _ = some (Value.int .i64 e) from rfl); clear c0 c1 c2 f0 f1 f2 H3 HL; generalize (((w3.setCell ⟨r, 0, none⟩ (.string (txt o))).setCell ⟨r, 1, none⟩ (.int .i64 a)).setCell ⟨r, 2, none⟩ (.int .i64 e)) = w4 at q0 q1 q2 HS3 ⊢; go_wp2; exact bodyPost_ret (v := .agg #[.string (txt o), .int .i64 a, .int .i64 e]) (by simp [results, Tryd.results51, go_sem, q0, q1, q2]) rfl ⟨rfl, HS3.out⟩
end Go.Proofs.YthffpkdadffinaaDoor.Sga
namespace Go.Proofs.YthffpkdadffinaaDoor.Fm
set_option linter.unusedVariables false
set_option linter.unusedSimpArgs false
open Go.RowKit YthffpkdadffinaaDoorW.PrintWords Hp
theorem nodup_inj : ∀ {js : List Nat} {k l : Nat}, js.Nodup → (hk : k < js.length) → (hl : l < js.length) → js[k] = js[l] → k = l
  | j :: js, 0, 0, _, _, _, _ => rfl
  | j :: js, 0, l + 1, h, _, hl, e => by
    (have e : j = js[l]'(by simpa using hl) := by simpa using e); exact absurd (show j ∈ js by rw [e]; exact List.getElem_mem _) (List.nodup_cons.1 h).1
  | j :: js, k + 1, 0, h, hk, _, e => by
    (have e : js[k]'(by simpa using hk) = j := by simpa using e); exact absurd (show j ∈ js by rw [← e]; exact List.getElem_mem _) (List.nodup_cons.1 h).1
  | j :: js, k + 1, l + 1, h, hk, hl, e => congrArg (· + 1) (nodup_inj (List.nodup_cons.1 h).2 (by simpa using hk) (by simpa using hl) (by simpa using e))
section
variable {w0 w w' : World} {L L' M : List Th}
theorem Sep.pick (h : Sep w0 L w) (js : List Nat) (hnd : js.Nodup) (hL : ∀ (k : Nat) (T : Th), L'[k]? = some T → ∃ i, js[k]? = some i ∧ L[i]? = some T) : Sep w0 L' w := by
  obtain ⟨ok, h1, h2, h3, h4⟩ := h; refine ⟨fun k b => ∃ i, js[k]? = some i ∧ ok i b, fun k T hT => ?_, fun k l b hkl hk hl => ?_, fun k b hk => ?_, h4⟩
  · obtain ⟨i, hi, hTi⟩ := hL k T hT
    have e : (fun b => ∃ i, js[k]? = some i ∧ ok i b) = ok i := by
      funext b
      exact propext ⟨fun ⟨i', hi', hb⟩ => by rw [hi] at hi'; cases hi'; exact hb, fun hb => ⟨i, hi, hb⟩⟩
    (show T.P (fun b => ∃ i, js[k]? = some i ∧ ok i b) w); rw [e]; exact h1 i T hTi
  · obtain ⟨i, hi, hbi⟩ := hk; obtain ⟨j, hj, hbj⟩ := hl; refine h2 i j b (fun e => hkl ?_) hbi hbj; subst e; obtain ⟨hk1, hk2⟩ := List.getElem?_eq_some_iff.1 hi; obtain ⟨hl1, hl2⟩ := List.getElem?_eq_some_iff.1 hj; exact nodup_inj hnd hk1 hl1 (hk2.trans hl2.symm)
  · obtain ⟨i, -, hb⟩ := hk; exact h3 i b hb
theorem Sep.pickL (h : Sep w0 L w) (js : List Nat) (hnd : js.Nodup) (hL : L'.map some = js.map (fun i => L[i]?)) : Sep w0 L' w :=
  h.pick js hnd fun k T hT => by
    have h1 := congrArg (fun l => l[k]?) hL; simp only [List.getElem?_map, hT, Option.map_some] at h1
    cases hj : js[k]? with
    | none => rw [hj] at h1; cases h1
    | some i => rw [hj] at h1; exact ⟨i, rfl, (Option.some.inj h1).symm⟩
theorem Sep.head (h : Sep w0 L w) (n : Nat) : Sep w0 (L.take n) w := by
  obtain ⟨ok, h1, h2, h3, h4⟩ := h; refine ⟨ok, fun k T hT => h1 k T ?_, h2, h3, h4⟩; rw [List.getElem?_take] at hT; split at hT
  · exact hT
  · cases hT
end
theorem perm_lift {α β : Type} (f : α → β) : ∀ {m l' : List β}, m.Perm l' → ∀ l : List α, l.map f = m → ∃ z : List α, z.Perm l ∧ z.map f = l' := by
  intro m l' h
  induction h with
  | nil => intro l hl; exact ⟨l, .refl _, hl⟩
  | cons x _ ih =>
    intro l hl
    cases l with
    | nil => simp at hl
    | cons y t =>
      obtain ⟨h1, h2⟩ := List.cons.inj hl; obtain ⟨z, hz, e⟩ := ih t h2; exact ⟨y :: z, hz.cons y, by rw [List.map_cons, e, h1]⟩
  | swap x y t =>
    intro l hl
    match l, hl with
    | a :: b :: r, hl =>
      obtain ⟨h1, h2⟩ := List.cons.inj hl; obtain ⟨h3, h4⟩ := List.cons.inj h2; exact ⟨b :: a :: r, .swap _ _ _, by rw [List.map_cons, List.map_cons, h1, h3, h4]⟩
  | trans _ _ ih1 ih2 =>
    intro l hl; obtain ⟨z1, p1, e1⟩ := ih1 l hl; obtain ⟨z2, p2, e2⟩ := ih2 z1 e1; exact ⟨z2, p2.trans p1, e2⟩
theorem Sep.init_ {w0 w : World} {L : List Th} (h : Sep w0 L w) (L' : List Th) (T : Th) (e : L = L' ++ [T]) : Sep w0 L' w := (e ▸ h).init
theorem Sep.perm {w0 w : World} {L L' : List Th} (h : Sep w0 L w) (hp : L.Perm L') : Sep w0 L' w := by
  obtain ⟨z, hz, e⟩ := perm_lift Prod.fst hp L.zipIdx (by simp); have hnd : (z.map Prod.snd).Nodup := (hz.map Prod.snd).nodup_iff.2 (by rw [List.zipIdx_map_snd]; exact List.nodup_range'); (refine h.pick (z.map Prod.snd) hnd fun k T hT => ?_); rw [← e, List.getElem?_map] at hT
  cases hk : z[k]? with
  | none => rw [hk] at hT; cases hT
  | some q =>
    rw [hk] at hT; obtain rfl : q.1 = T := Option.some.inj hT; have hm : q ∈ L.zipIdx := hz.mem_iff.1 (List.mem_of_getElem? hk); refine ⟨q.2, by rw [List.getElem?_map, hk]; rfl, ?_⟩; obtain ⟨T, i⟩ := q; have := List.mem_zipIdx_iff_getElem?.1 hm
    simpa using this
theorem at3 {α : Type} (a b c : α) (M r : List α) (x : α) : (a :: b :: c :: (M ++ x :: r))[M.length + 3]? = some x := by simp
theorem set3 {α : Type} (a b c : α) (M r : List α) (x y : α) : (a :: b :: c :: (M ++ x :: r)).set (M.length + 3) y = a :: b :: c :: (M ++ y :: r) := by simp
theorem at4 {α : Type} (a b c : α) (M r : List α) (x y : α) : (a :: b :: c :: (M ++ x :: y :: r))[M.length + 4]? = some y := by
  have := at3 a b c (M ++ [x]) r y; simp at this ⊢
theorem at5 {α : Type} (a b c : α) (M r : List α) (x y z : α) : (a :: b :: c :: (M ++ x :: y :: z :: r))[M.length + 5]? = some z := by simp
theorem take5 {α : Type} (a b c : α) (M : List α) (x y z : α) : (a :: b :: c :: (M ++ x :: y :: [z])).take (M.length + 5) = a :: b :: c :: (M ++ x :: [y]) := by
  (show a :: b :: c :: List.take (M.length + 2) (M ++ x :: y :: [z]) = _); rw [show M ++ x :: y :: [z] = (M ++ x :: [y]) ++ [z] by simp, List.take_left' (by simp)]
theorem take4 {α : Type} (a b c : α) (M : List α) (x y : α) : (a :: b :: c :: (M ++ x :: [y])).take (M.length + 4) = a :: b :: c :: (M ++ [x]) := by
  (show a :: b :: c :: List.take (M.length + 1) (M ++ x :: [y]) = _); rw [show M ++ x :: [y] = (M ++ [x]) ++ [y] by simp, List.take_left' (by simp)]
def blkT (g : Nat) (cells : Array Value) (t : TypeId) : Th :=
  ⟨fun ok w => ok g ∧ w.heap[g]? = some (.cells cells t (0, 0)), fun h hm => ⟨h.1, (hm g h.1 (blk_lt h.2)).trans h.2⟩, fun h => ⟨⟨h.1, blk_lt h.2⟩, h.2⟩⟩
section
variable {w0 w w' : World} {L : List Th} {g : Nat} {cells cells' : Array Value} {t : TypeId}
theorem Sep.blk (h : Sep w0 L w) (i : Nat) (hi : L[i]? = some (blkT g cells t)) : w.heap[g]? = some (.cells cells t (0, 0)) ∧ w0.heap.size ≤ g := by
  obtain ⟨ok, h1, h2, _⟩ := h.op i _ hi; exact ⟨h1.2, h2 g h1.1⟩
theorem Sep.blk_chg (h : Sep w0 L w) (i : Nat) (hi : L[i]? = some (blkT g cells t)) (hc : w'.heap[g]? = some (.cells cells' t (0, 0))) (hch : Chg (fun b => b = g) w w') :
    Sep w0 (L.set i (blkT g cells' t)) w' := by
  obtain ⟨ok, h1, h2, h3⟩ := h.op i _ hi; exact h3 w' (blkT g cells' t) ok ⟨h1.1, hc⟩ (fun b hb => .inl hb) (hch.mono (fun k _ hk => by rw [hk]; exact h1.1))
theorem Sep.blk_set (h : Sep w0 L w) (i : Nat) (hi : L[i]? = some (blkT g cells t)) (j : Nat) (u : Value) (hc : cells' = cells.setIfInBounds j u) : Sep w0 (L.set i (blkT g cells' t)) (w.setCell ⟨g, j, none⟩ u) := by
  subst hc; exact h.blk_chg i hi (Go.Proofs.YthffpkdadffinaaDoorW.PrintWords.blk_set (h.blk i hi).1 j u) ((Chg.refl (fun b => b = g) w).setCell (p := ⟨g, j, none⟩) (.inl rfl) u)
theorem Sep.blk_new (h : Sep w0 L w) (cells : Array Value) (t : TypeId) : Sep w0 (L ++ [blkT w.heap.size cells t]) (w.alloc (.cells cells t)) :=
  h.new (blkT w.heap.size cells t) (ok := fun b => b = w.heap.size) ⟨rfl, heap_alloc_new w _⟩ (fun b hb => by rw [hb]; exact Nat.le_refl _) (below_alloc (Below.refl _ _) _)
theorem Sep.rows {α : Type} {d : Kd α} {e base : Nat} {A : Option Addr} {m c : Nat} {xs : List α} (h : Sep w0 L w) (i : Nat) (hi : L[i]? = some (rowT d e base (.slice A m c) xs)) : m = xs.length ∧ m ≤ c ∧ d.C w A m xs := by
  obtain ⟨ok, h1⟩ := h.one i _ hi; have := Kd.R_reads' (show d.R e w base ok (.slice A m c) xs from h1); exact ⟨this.1, this.2.1, this.1 ▸ this.2.2⟩
theorem Sep.let_go {α : Type} (d : Kd α) (e base : Nat) {T : Th} (h : Sep w0 L w) (i : Nat) (hi : L[i]? = some T) : Sep w0 (L.set i (rowT d e base (.slice none 0 0) [])) w := by
  obtain ⟨ok, h1, h2, h3⟩ := h.op i T hi; exact h3 w (rowT d e base (.slice none 0 0) []) (fun _ => False) (Kd.R_nil d e w base _) (fun _ hb => hb.elim) (Chg.refl ok w)
theorem Sep.newR {α : Type} {d : Kd α} {e : Nat} (h : Sep w0 L w) {v : Value} {xs : List α} (p1 : d.R e w' w.heap.size (fun _ => True) v xs) (p2 : Below w.heap.size w w') : Sep w0 (L ++ [rowT d e w0.heap.size v xs]) w' :=
  h.new (rowT d e w0.heap.size v xs) (ok := fun b => w.heap.size ≤ b) (Kd.R_lower (Kd.R_mono (Kd.R_bound p1) (fun k hk => hk.2.1)) h.below.size) (fun _ hb => hb) p2
end
end Go.Proofs.YthffpkdadffinaaDoor.Fm
namespace Go.Proofs.YthffpkdadffinaaDoor.Sgb
set_option linter.unusedVariables false
set_option linter.unusedSimpArgs false
open Go.Proofs.YthffpkdadffinaaDoor.Vd (decU)
open Go.Proofs.YthffpkdadffinaaDoor.Ve (opn)
open Go.Proofs.YthffpkdadffinaaDoor.Fr (K3 T3)
open Go.RowKit YthffpkdadffinaaDoorW.PrintWords Hp Fm X Va Oa Vp0 Cn Sga
abbrev kP := k103
abbrev TP : Nat := 103
abbrev SP := S103
abbrev SG := S67
def flushB (o : List Int) (x : Int) : Bool := !o.isEmpty && opn x
def tk (lim : Int) : List SP → List Int → Int → Int → List SG × List Int × Int × Int × Bool
  | [], o, a, e => ([], o, a, e, false)
  | p :: ps, o, a, e =>
    if flushB o p.f0 = true then
      if lim < ((decU p.f0).length : Int) then ([⟨txt o, a, e⟩], [], p.f1, p.f1 + p.f2, true)
      else (⟨txt o, a, e⟩ :: (tk lim ps (decU p.f0) p.f1 (p.f1 + p.f2)).1, (tk lim ps (decU p.f0) p.f1 (p.f1 + p.f2)).2)
    else
      if lim < ((o ++ decU p.f0).length : Int) then ([], [], a, p.f1 + p.f2, true)
      else tk lim ps (o ++ decU p.f0) a (p.f1 + p.f2)
theorem OpensR (w : World) (hG : G w) (x : Int) (hx : I32 x) : Calls Tryd.prog 59 #[.int .i32 x] w fun e w' => e = .returned (.bool (opn x)) ∧ Below w.heap.size w w' :=
  ucd_Opens.calls x (opn x) w (by unfold ucd_Opens.f; exact if_pos hx) hG
theorem DecG (w : World) (hG : G w) (x : Int) (hx : I32 x) : Calls Tryd.prog 57 #[.int .i32 x] w fun e w' => ∃ v, e = .returned v ∧ K3.R T3 w' w.heap.size (fun _ => True) v (decU x) ∧ Below w.heap.size w w' :=
  ucd_Decompose.calls x (decU x) w (by unfold ucd_Decompose.f; exact if_pos hx) hG
theorem pt_at {w : World} {A : Option Addr} {n : Nat} {l : List SP} (h : Kd.C kP w A n l) (j : Nat) (hj : j < n) (hjl : j < l.length) :
    ∃ ad, A = some ad ∧ w.cell? (ad.add (j * 3)) = some (.int .i32 l[j].f0) ∧ w.cell? ⟨(ad.add (j * 3)).block, (ad.add (j * 3)).off + 1, none⟩ = some (.int .i64 l[j].f1) ∧ w.cell? ⟨(ad.add (j * 3)).block, (ad.add (j * 3)).off + 2, none⟩ = some (.int .i64 l[j].f2) := by
  have := at_T103 h (j : Int) (by omega) (by omega); (have e : rd_T103 l (j : Int) = l[j] := by unfold rd_T103; simp [List.getD_eq_getElem?_getD, List.getElem?_eq_getElem hjl]); rw [Int.toNat_natCast, e] at this; exact this
def fine (p : SP) : Prop := I32 p.f0 ∧ 0 ≤ p.f1 ∧ p.f1 ≤ 4000000000000000 ∧ 0 ≤ p.f2 ∧ p.f2 ≤ 4000000000000000
def errOf (b : Bool) : Int := if b = true then 6 else 0
def Ts (w0 : World) (g gd : Nat) (lim : Int) (cl : Bool) (A : Option Addr) (n c : Nat) (ps : List SP) (M : List Th) (o : List Int) (a e : Int) (er : Int) (out : List SG) (outv : Value) (w : World) : Prop :=
  ∃ ov, Sep w0 (blkT g (segCells gd lim ov a e cl er) TS :: rowT K3 T3 w0.heap.size ov o :: rowT kP TP w0.heap.size (.slice A n c) ps :: (M ++ [rowT kG TG w0.heap.size outv out])) w
def catT (out : List SG) (r : List SG × List Int × Int × Int × Bool) : List SG × List Int × Int × Int × Bool := (out ++ r.1, r.2)
theorem tk_step (lim : Int) (p : SP) (ps : List SP) (o : List Int) (a e : Int) (out : List SG) (o1 : List Int) (a1 : Int) (out1 : List SG)
    (h : (o1, a1, out1) = if flushB o p.f0 = true then ([], p.f1, out ++ [⟨txt o, a, e⟩]) else (o, a, out)) :
    catT out (tk lim (p :: ps) o a e) = if lim < ((o1 ++ decU p.f0).length : Int) then (out1, [], a1, p.f1 + p.f2, true) else catT out1 (tk lim ps (o1 ++ decU p.f0) a1 (p.f1 + p.f2)) := by
  rw [tk]; by_cases hf : flushB o p.f0 = true
  · rw [if_pos hf] at h ⊢; obtain ⟨rfl, h2⟩ := Prod.mk.inj h; obtain ⟨rfl, rfl⟩ := Prod.mk.inj h2; rw [List.nil_append]; split
    · rfl
    · simp [catT]
  · rw [if_neg hf] at h ⊢; obtain ⟨rfl, h2⟩ := Prod.mk.inj h; obtain ⟨rfl, rfl⟩ := Prod.mk.inj h2; split
    · simp [catT]
    · rfl
def Ls (w0 : World) (g gd : Nat) (lim : Int) (cl : Bool) (ad : Addr) (n c : Nat) (ps : List SP) (M : List Th) (o : List Int) (a e : Int) (er : Int) (out : List SG) (outv ov : Value) (pb : Nat) (p : SP) (w : World) : Prop :=
  Sep w0 (blkT g (segCells gd lim ov a e cl er) TS :: rowT K3 T3 w0.heap.size ov o :: rowT kP TP w0.heap.size (.slice (some ad) n c) ps :: (M ++ rowT kG TG w0.heap.size outv out :: [blkT pb #[.int .i32 p.f0, .int .i64 p.f1, .int .i64 p.f2] TP])) w
def TakePost (w0 : World) (g gd : Nat) (lim : Int) (cl : Bool) (A : Option Addr) (n c : Nat) (ps : List SP) (M : List Th) (r : List SG × List Int × Int × Int × Bool) (E : Ending) (w' : World) : Prop :=
  ∃ outv, E = .returned (.tuple #[outv, .int .i64 (errOf r.2.2.2.2)]) ∧ Ts w0 g gd lim cl A n c ps M r.2.1 r.2.2.1 r.2.2.2.1 (errOf r.2.2.2.2) r.1 outv w'
set_option maxRecDepth 100000 in
set_option maxHeartbeats 8000000 in
theorem TakeS (w0 : World) (hG : G w0) (w : World) (g gd : Nat) (lim : Int) (cl : Bool) (A : Option Addr) (n c : Nat) (ps : List SP) (M : List Th) (o : List Int) (a e : Int) (ov : Value)
    (h : Sep w0 (blkT g (segCells gd lim ov a e cl 0) TS :: rowT K3 T3 w0.heap.size ov o :: rowT kP TP w0.heap.size (.slice A n c) ps :: M) w)
    (hps : ∀ p ∈ ps, fine p) (hl : n ≤ 100000000) (hlim : lim ≤ 50000000) (ho : (o.length : Int) ≤ lim) (ho32 : ∀ x ∈ o, I32 x) :
    Calls Tryd.prog 44 #[.pointer (some ⟨g, 0, none⟩), .slice A n c] w (TakePost w0 g gd lim cl A n c ps M (tk lim ps o a e)) := by
  have hnl := (h.rows 2 rfl).1; have S0 := Aside0.mk (show Ts w0 g gd lim cl A n c ps M o a e 0 [] (.slice none 0 0) w from ⟨ov, h.empty kG TG w0.heap.size⟩); obtain ⟨R, hR⟩ : ∃ R, R = tk lim ps o a e := ⟨_, rfl⟩; rw [← hR]; have HR := Aside0.mk hR; have HN := Aside0.mk hnl; have HG := Aside0.mk hG; have HPS := Aside0.mk hps; have HO32 := Aside0.mk ho32; clear h hnl hG hps hR ho32; go_enter Tryd.func44, Tryd.ntmps44; go_wp2; go_loopw [6, 11] (fun v6 v11 wr => ∃ (i : Nat) (o : List Int) (a e : Int) (out : List SG), v11 = .int .i64 i ∧ i ≤ n ∧ out.length ≤ i ∧ (o.length : Int) ≤ lim ∧ Aside0 (∀ x ∈ o, I32 x) ∧ Aside0 (R = catT out (tk lim (ps.drop i) o a e)) ∧ Aside0 (Ts w0 g gd lim cl A n c ps M o a e 0 out v6 wr)) (fun _ v11 _ => n - (intOf v11).toNat)
  case atStart => exact ⟨0, o, a, e, [], rfl, Nat.zero_le _, Nat.zero_le _, ho, HO32, ⟨HR.out⟩, S0⟩
  case round =>
    clear S0 HR HO32 ho; obtain ⟨i, o, a, e, out, rfl, hi, hout, ho, HO32, HR, HS⟩ := hrel; by_cases hlt : i < n
    · have hd : decide ((i : Int) < (n : Int)) = true := decide_eq_true (by omega); have hd2 : decide (i < n) = true := decide_eq_true hlt; (have hil : i < ps.length := by have := HN.out; omega); obtain ⟨ov, hS⟩ := HS.out; obtain ⟨ad, rfl, z0, z1, z2⟩ := pt_at (hS.rows 2 rfl).2.2 i hlt hil; have hfp := HPS.out _ (List.getElem_mem hil); have hdr := List.drop_eq_getElem_cons hil; have hr := HR.out; rw [hdr] at hr; obtain ⟨p, hp⟩ : ∃ p, p = ps[i] := ⟨_, rfl⟩; rw [← hp] at z0 z1 z2 hfp hr; obtain ⟨ov, hov⟩ : ∃ v, v = ov := ⟨_, rfl⟩; rw [← hov] at hS; have S1 := Aside0.mk hS; have HR1 := Aside0.mk hr; have HFP := Aside0.mk hfp; (have hn0 : (0 : Int) ≤ (i : Int) := by omega); (have hn1 : (i : Int) < (n : Int) := by omega); clear hS hfp hdr hr hp hov HR HS; go_upto_region 5 with (fail)
      have S2 := Aside0.mk (show Ls w0 g gd lim cl ad n c ps M o a e 0 out u6 ov wr.heap.size p (wr.alloc (.cells #[.int .i32 p.f0, .int .i64 p.f1, .int .i64 p.f2] TP)) from by
        have h := S1.out.blk_new #[.int .i32 p.f0, .int .i64 p.f1, .int .i64 p.f2] TP; simp only [List.cons_append, List.append_assoc] at h
        exact h)
      obtain ⟨pb, hpb⟩ : ∃ pb, pb = wr.heap.size := ⟨_, rfl⟩; rw [← hpb] at S2 ⊢; generalize (wr.alloc (.cells #[.int .i32 p.f0, .int .i64 p.f1, .int .i64 p.f2] TP)) = w2 at S2 ⊢; clear S1 z0 z1 z2 hpb; obtain ⟨fl, hfl⟩ : ∃ fl, fl = flushB o p.f0 := ⟨_, rfl⟩; have HFL := Aside0.mk hfl; clear hfl; go_cut [25] (fun v25 wc => v25 = .bool fl ∧ Aside0 (Ls w0 g gd lim cl ad n c ps M o a e 0 out u6 ov pb p wc))
      case first =>
        obtain ⟨Ao, co, rfl, hco, hCo⟩ := S2.out.reads 1 rfl; obtain ⟨m, hm⟩ : ∃ m, m = o.length := ⟨_, rfl⟩; have SO := S2; rw [← hm] at S2 hco hCo; have hcell := blk_cell (S2.out.blk 0 rfl).1 2; have hp0 := blk_cell (S2.out.blk (M.length + 4) (at4 _ _ _ _ _ _ _)).1 0; simp only [segCells] at hcell; have HM := Aside0.mk hm; have HCo := Aside0.mk (And.intro hco hCo); clear hco hCo hm S2; rcases Nat.eq_zero_or_pos m with h0 | h0
        · subst h0; (have hf : fl = false := by rw [HFL.out, List.eq_nil_of_length_eq_zero HM.out.symm]; rfl); have hd3 : decide ((0 : Int) > 0) = false := rfl; subst hf; go_wp2; go_meet
          case rel => exact ⟨rfl, SO⟩
        · have hd3 : decide (0 < m) = true := decide_eq_true h0
          have hne : o.isEmpty = false := by
            cases o with
            | nil => exact absurd HM.out (by simp; omega)
            | cons x t => rfl
          (have hf : fl = opn p.f0 := by rw [HFL.out]; unfold flushB; rw [hne]; rfl); have HOP := Aside0.mk (OpensR w2 (HG.out.below SO.out.below) p.f0 HFP.out.1); rw [← hf] at HOP; clear hne hf
          cases fl with
          | true =>
            go_wp2_with (first | (go_at_call 59; go_must (refine HOP.out.mono ?_; rintro e w3 ⟨rfl, p1⟩; have S3 := Aside0.mk (SO.out.later p1); clear p1))); go_meet
            case rel => exact ⟨rfl, S3⟩
          | false =>
            go_wp2_with (first | (go_at_call 59; go_must (refine HOP.out.mono ?_; rintro e w3 ⟨rfl, p1⟩; have S3 := Aside0.mk (SO.out.later p1); clear p1))); go_meet
            case rel => exact ⟨rfl, S3⟩
      case rest =>
        clear S2; obtain ⟨rfl, S2⟩ := hcut; go_upto_if 25 with (fail); go_cut [6] (fun v6 wc => ∃ (o1 : List Int) (a1 : Int) (out1 : List SG) (ov1 : Value), out1.length ≤ i + 1 ∧ Aside0 ((o1, a1, out1) = if fl = true then ([], p.f1, out ++ [⟨txt o, a, e⟩]) else (o, a, out)) ∧ Aside0 (Ls w0 g gd lim cl ad n c ps M o1 a1 e 0 out1 v6 ov1 pb p wc))
        case first =>
          cases fl with
          | false =>
            go_wp2; go_meet
            case rel => exact ⟨o, a, out, ov, by omega, ⟨rfl⟩, S2⟩
          | true =>
            obtain ⟨Ao, co, rfl, hco, hCo⟩ := S2.out.reads 1 rfl; have HW := Aside0.mk (WholeP wc (HG.out.below S2.out.below) g gd lim a e 0 cl Ao o.length co o (S2.out.blk 0 rfl).1 hCo rfl hco HO32.out (by omega)); clear hCo hco; go_upto_region 7 with (first | (go_at_call 51; go_must (refine HW.out.mono ?_; rintro E w3 ⟨rfl, p1⟩; have S3 := Aside0.mk (S2.out.later p1); clear p1; obtain ⟨ok1, hR1, hf1, hN1⟩ := Sep.row (d := kG) (e := TG) (base := w0.heap.size) (v := u6) (xs := out) S3.out (M.length + 3) (at3 _ _ _ _ _ _); have HR1 := Aside0.mk hR1; have HF1 := Aside0.mk hf1; have HN1 := Aside0.mk hN1; have HB3 := Aside0.mk S3.out.below; clear hR1 hf1 hN1)) | (at_builtin; go_must (refine Kd.R_append kG (w0 := w0) w0.heap.size rfl (.tmp 26) (.tmp 29) 29 TG (.agg #[.string ⟨#[]⟩, .int .i64 0, .int .i64 0]) 32 rfl Tryd.underlying29 info67 rfl (by decide) (by decide) u6 out (⟨txt o, a, e⟩ : SG) [.string (txt o), .int .i64 a, .int .i64 e] ok1 (fun _ => False) rfl rfl ?aP (fun _ hk => hk.elim) ?aF ?aO ?aB ?aS ?aL ?_; (case aP => exact k67_mkM _ _ _ ⟨txt o, a, e⟩); (case aB => exact HB3.out); (case aF => exact HF1.out); (case aO => exact HR1.out); (case aS => exact HB3.out.size); (case aL => omega); intro v6 w4 ho hb hg hat; have S4 := Aside0.mk (show Ls w0 g gd lim cl ad n c ps M o a e 0 (out ++ [⟨txt o, a, e⟩]) v6 (.slice Ao o.length co) pb p w4 from (by have h := HN1.out v6 w4 _ ho hg; rw [set3] at h; exact h)); clear ho hb hg hat HR1 HF1 HN1 S3))); clear HW HB3; have HPB := Aside0.mk (S4.out.blk (M.length + 4) (at4 _ _ _ _ _ _ _)).1; have HGB := Aside0.mk (S4.out.blk 0 rfl).1; refine wp_region_held_drew (S := fun W => W.heap[pb]? = some (.cells #[.int .i32 p.f0, .int .i64 p.f1, .int .i64 p.f2] TP (0, 0))) (by kernel_rfl) HPB.out (fun hS => ?_); refine wpAnyH_take (i := 0) (oi := { dst := some 31, op := _, type := _, pos := _, after := _, guard := _ }) (v := .pointer (some ⟨g, 0, none⟩)) rfl (by kernel_rfl) (by kernel_rfl) (by kernel_rfl) (fun _ _ _ h => h) (Or.inl ⟨by rfl, fun W hW => ?_⟩) hS ?_
            · (go_simp)
            (try simp only [Act.put, List.setIfInBounds_toArray, List.set_cons_zero, List.set_cons_succ]); refine wpAnyH_take (i := 1) (oi := { dst := some 32, op := _, type := _, pos := _, after := _, guard := _ }) (v := .pointer (some ⟨g, 0, none⟩)) rfl (by kernel_rfl) (by kernel_rfl) (by kernel_rfl) (fun _ _ _ h => h) (Or.inl ⟨by rfl, fun W hW => ?_⟩) hS ?_
            · (go_simp)
            (try simp only [Act.put, List.setIfInBounds_toArray, List.set_cons_zero, List.set_cons_succ]); refine wpAnyH_take (i := 2) (oi := { dst := some 33, op := _, type := _, pos := _, after := _, guard := _ }) (v := .pointer (some ⟨pb, 1, none⟩)) rfl (by kernel_rfl) (by kernel_rfl) (by kernel_rfl) (fun _ _ _ h => h) (Or.inl ⟨by rfl, fun W hW => ?_⟩) hS ?_
            · (go_simp)
            (try simp only [Act.put, List.setIfInBounds_toArray, List.set_cons_zero, List.set_cons_succ]); refine wpAnyH_take (i := 3) (oi := { dst := some 34, op := _, type := _, pos := _, after := _, guard := _ }) (v := .int .i64 p.f1) rfl (by kernel_rfl) (by kernel_rfl) (by kernel_rfl) (fun _ _ _ h => h) (Or.inl ⟨by rfl, fun W hW => ?_⟩) hS ?_
            · (have hcell := blk_cell hW 1; go_simp)
            (try simp only [Act.put, List.setIfInBounds_toArray, List.set_cons_zero, List.set_cons_succ]); refine wpAnyH_take (i := 4) (oi := { dst := some 35, op := _, type := _, pos := _, after := _, guard := _ }) (v := .pointer (some ⟨g, 0, none⟩)) rfl (by kernel_rfl) (by kernel_rfl) (by kernel_rfl) (fun _ _ _ h => h) (Or.inl ⟨by rfl, fun W hW => ?_⟩) hS ?_
            · (go_simp)
            (try simp only [Act.put, List.setIfInBounds_toArray, List.set_cons_zero, List.set_cons_succ]); refine wpAnyH_take (i := 5) (oi := { dst := some 36, op := _, type := _, pos := _, after := _, guard := _ }) (v := .pointer (some ⟨g, 2, none⟩)) rfl (by kernel_rfl) (by kernel_rfl) (by kernel_rfl) (fun _ _ _ h => h) (Or.inl ⟨by rfl, fun W hW => ?_⟩) hS ?_
            · (go_simp)
            (try simp only [Act.put, List.setIfInBounds_toArray, List.set_cons_zero, List.set_cons_succ]); have c2 := blk_cell HGB.out 2; have f2 := blk_frozen HGB.out 2; simp only [segCells] at c2; have S5 := Aside0.mk (show Ls w0 g gd lim cl ad n c ps M [] a e 0 (out ++ [⟨txt o, a, e⟩]) v6 (.slice none 0 0) pb p (w4.setCell ⟨g, 2, none⟩ (.slice none 0 0)) from (S4.out.blk_set 0 rfl 2 (.slice none 0 0) rfl).let_go K3 T3 w0.heap.size 1 rfl); have HPB5 := Aside0.mk (S5.out.blk (M.length + 4) (at4 _ _ _ _ _ _ _)).1; refine wpAnyH_ready (rs := [6]) (by kernel_rfl) (by simp) ?_; refine AllReadyH.cons (o := { dst := none, op := _, type := _, pos := _, after := _, guard := _ }) rfl (fun K hK => ?_) AllReadyH.nil; go_simp; refine hK.out _ _ HPB5.out (fun hS2 => ?_); clear hK K hS; have hS := hS2; clear hS2; (try simp only [Act.put, List.setIfInBounds_toArray, List.set_cons_zero, List.set_cons_succ]); refine wpAnyH_take (i := 7) (oi := { dst := some 37, op := _, type := _, pos := _, after := _, guard := _ }) (v := .pointer (some ⟨g, 0, none⟩)) rfl (by kernel_rfl) (by kernel_rfl) (by kernel_rfl) (fun _ _ _ h => h) (Or.inl ⟨by rfl, fun W hW => ?_⟩) hS ?_
            · (go_simp)
            (try simp only [Act.put, List.setIfInBounds_toArray, List.set_cons_zero, List.set_cons_succ]); refine wpAnyH_take (i := 8) (oi := { dst := some 38, op := _, type := _, pos := _, after := _, guard := _ }) (v := .pointer (some ⟨g, 3, none⟩)) rfl (by kernel_rfl) (by kernel_rfl) (by kernel_rfl) (fun _ _ _ h => h) (Or.inl ⟨by rfl, fun W hW => ?_⟩) hS ?_
            · (go_simp)
            (try simp only [Act.put, List.setIfInBounds_toArray, List.set_cons_zero, List.set_cons_succ]); have c3 := blk_cell (S5.out.blk 0 rfl).1 3; have f3 := blk_frozen (S5.out.blk 0 rfl).1 3; simp only [segCells] at c3; have S6 := Aside0.mk (show Ls w0 g gd lim cl ad n c ps M [] p.f1 e 0 (out ++ [⟨txt o, a, e⟩]) v6 (.slice none 0 0) pb p ((w4.setCell ⟨g, 2, none⟩ (.slice none 0 0)).setCell ⟨g, 3, none⟩ (.int .i64 p.f1)) from S5.out.blk_set 0 rfl 3 (.int .i64 p.f1) rfl); have HPB6 := Aside0.mk (S6.out.blk (M.length + 4) (at4 _ _ _ _ _ _ _)).1; have S7 := Aside0.mk (show Ls w0 g gd lim cl ad n c ps M [] p.f1 e 0 (out ++ [⟨txt o, a, e⟩]) v6 (.slice none 0 0) pb p (((w4.setCell ⟨g, 2, none⟩ (.slice none 0 0)).setCell ⟨g, 3, none⟩ (.int .i64 p.f1)).drew) from S6.out.later ((Drawn0.refl _).step 1).below); clear c2 f2; refine wpAnyH_ready (rs := [9]) (by kernel_rfl) (by simp) ?_; refine AllReadyH.cons (o := { dst := none, op := _, type := _, pos := _, after := _, guard := _ }) rfl (fun K hK => ?_) AllReadyH.nil; go_simp; refine hK.out _ _ HPB6.out (fun hS2 => ?_); clear hK K hS hS2 c3 f3; refine wpAnyH_done (by kernel_rfl) ?_ _; go_wp2; go_meet
            case rel => exact ⟨[], p.f1, out ++ [⟨txt o, a, e⟩], .slice none 0 0, by simp; omega, ⟨rfl⟩, S7⟩
        case rest =>
          obtain ⟨o1, a1, out1, ov1, hout1, HST, S3⟩ := hcut; clear S2; have hst := tk_step lim p (ps.drop (i + 1)) o a e out o1 a1 out1 (by rw [← HFL.out]; exact HST.out); rw [← HR1.out] at hst; have hdl := Oa.dec_len3 p.f0 HFP.out.1
          have ho1 : (o1.length : Int) ≤ lim ∧ ∀ x ∈ o1, I32 x := by
            have h := HST.out
            cases fl with
            | true => simp only [if_true, Prod.mk.injEq] at h; rw [h.1]; exact ⟨by simp; omega, fun x hx => absurd hx (by simp)⟩
            | false => simp only [Bool.false_eq_true, if_false, Prod.mk.injEq] at h; rw [h.1]; exact ⟨ho, HO32.out⟩
          have HO1 := Aside0.mk ho1.2; have ho1l := ho1.1; have hdb := Oa.dec_bot p.f0 HFP.out.1; obtain ⟨D, hD⟩ : ∃ D, D = decU p.f0 := ⟨_, rfl⟩; rw [← hD] at hst hdl hdb; have HDD := Aside0.mk hD; have HST2 := Aside0.mk hst; have HDB := Aside0.mk (show ∀ x ∈ D, I32 x from fun x hx => (hdb x hx).2); obtain ⟨Ao, co, rfl, hco, -⟩ := S3.out.reads 1 rfl; obtain ⟨m, hm⟩ : ∃ m, m = o1.length := ⟨_, rfl⟩; have HM := Aside0.mk hm; (have hml : (m : Int) ≤ lim := by omega); rw [← hm] at S3; have hDl : D.length ≤ 3 := hdl; obtain ⟨-, hp1, hp2, hp3, hp4⟩ := HFP.out; clear hst ho1 hdb hD hm HST HR1 ho ho1l hout hdl; obtain ⟨o2, ho2⟩ : ∃ o2, o2 = o1 ++ D := ⟨_, rfl⟩; have HO2 := Aside0.mk ho2; clear ho2; go_upto_region 8 with (fail); go_cut [] (fun wd => ∃ ov2 : Value, Aside0 (Ls w0 g gd lim cl ad n c ps M o2 a1 e 0 out1 u6 ov2 pb p wd))
          case first =>
            have HPB := Aside0.mk (S3.out.blk (M.length + 4) (at4 _ _ _ _ _ _ _)).1; refine wp_region_held_drew (S := fun W => W.heap[pb]? = some (.cells #[.int .i32 p.f0, .int .i64 p.f1, .int .i64 p.f2] TP (0, 0))) (by kernel_rfl) HPB.out (fun hS => ?_); have S4 := Aside0.mk (S3.out.later ((Drawn0.refl wc).step 1).below); refine wpAnyH_take (i := 0) (oi := { dst := some 39, op := _, type := _, pos := _, after := _, guard := _ }) (v := .pointer (some ⟨g, 0, none⟩)) rfl (by kernel_rfl) (by kernel_rfl) (by kernel_rfl) (fun _ _ _ h => h) (Or.inl ⟨by rfl, fun W hW => ?_⟩) hS ?_
            · (go_simp)
            (try simp only [Act.put, List.setIfInBounds_toArray, List.set_cons_zero, List.set_cons_succ]); refine wpAnyH_take (i := 1) (oi := { dst := some 40, op := _, type := _, pos := _, after := _, guard := _ }) (v := .pointer (some ⟨g, 0, none⟩)) rfl (by kernel_rfl) (by kernel_rfl) (by kernel_rfl) (fun _ _ _ h => h) (Or.inl ⟨by rfl, fun W hW => ?_⟩) hS ?_
            · (go_simp)
            (try simp only [Act.put, List.setIfInBounds_toArray, List.set_cons_zero, List.set_cons_succ]); refine wpAnyH_take (i := 2) (oi := { dst := some 41, op := _, type := _, pos := _, after := _, guard := _ }) (v := .pointer (some ⟨g, 0, none⟩)) rfl (by kernel_rfl) (by kernel_rfl) (by kernel_rfl) (fun _ _ _ h => h) (Or.inl ⟨by rfl, fun W hW => ?_⟩) hS ?_
            · (go_simp)
            (try simp only [Act.put, List.setIfInBounds_toArray, List.set_cons_zero, List.set_cons_succ]); refine wpAnyH_take (i := 3) (oi := { dst := some 42, op := _, type := _, pos := _, after := _, guard := _ }) (v := .pointer (some ⟨g, 2, none⟩)) rfl (by kernel_rfl) (by kernel_rfl) (by kernel_rfl) (fun _ _ _ h => h) (Or.inl ⟨by rfl, fun W hW => ?_⟩) hS ?_
            · (go_simp)
            (try simp only [Act.put, List.setIfInBounds_toArray, List.set_cons_zero, List.set_cons_succ]); refine wpAnyH_take (i := 5) (oi := { dst := some 44, op := _, type := _, pos := _, after := _, guard := _ }) (v := .pointer (some ⟨pb, 0, none⟩)) rfl (by kernel_rfl) (by kernel_rfl) (by kernel_rfl) (fun _ _ _ h => h) (Or.inl ⟨by rfl, fun W hW => ?_⟩) hS ?_
            · (go_simp)
            (try simp only [Act.put, List.setIfInBounds_toArray, List.set_cons_zero, List.set_cons_succ]); refine wpAnyH_take (i := 6) (oi := { dst := some 45, op := _, type := _, pos := _, after := _, guard := _ }) (v := .int .i32 p.f0) rfl (by kernel_rfl) (by kernel_rfl) (by kernel_rfl) (fun _ _ _ h => h) (Or.inl ⟨by rfl, fun W hW => ?_⟩) hS ?_
            · (have hcell := blk_cell hW 0; go_simp)
            (try simp only [Act.put, List.setIfInBounds_toArray, List.set_cons_zero, List.set_cons_succ]); refine wpAnyH_ready (rs := [4, 7]) (by kernel_rfl) (by simp) ?_; refine AllReadyH.cons (o := { dst := some 43, op := _, type := _, pos := _, after := _, guard := _ }) rfl (fun K hK => ?_) (AllReadyH.cons (o := { dst := some 46, op := _, type := _, pos := _, after := _, guard := _ }) rfl (fun K hK => ?_) AllReadyH.nil)
            · have c2 := blk_cell (S3.out.blk 0 rfl).1 2; simp only [segCells] at c2; go_simp; refine hK.out _ _ hS (fun hS2 => ?_); clear hK K hS2 c2; (try simp only [Act.put, List.setIfInBounds_toArray, List.set_cons_zero, List.set_cons_succ]); refine wpAnyH_ready (rs := [7]) (by kernel_rfl) (by simp) ?_; refine AllReadyH.cons (o := { dst := some 46, op := _, type := _, pos := _, after := _, guard := _ }) rfl (fun K hK => ?_) AllReadyH.nil; go_simp
              (go_at_call 57)
              refine (DecG _ (HG.out.below S4.out.below) p.f0 HFP.out.1).mono ?_; rintro E w4 ⟨v4, rfl, q1, q2⟩; rw [← HDD.out] at q1
              have S5 := Aside0.mk (show Sep w0 (blkT g (segCells gd lim (.slice Ao m co) a1 e cl 0) TS :: rowT K3 T3 w0.heap.size (.slice Ao m co) o1 :: rowT kP TP w0.heap.size (.slice (some ad) n c) ps :: (M ++ rowT kG TG w0.heap.size u6 out1 :: blkT pb #[.int .i32 p.f0, .int .i64 p.f1, .int .i64 p.f2] TP :: [rowT K3 T3 w0.heap.size v4 D])) w4 from by
                have h := S4.out.newR q1 q2; simp only [List.cons_append, List.append_assoc, List.nil_append] at h
                exact h)
              obtain ⟨A4, c4, rfl⟩ := Kd.R_slice q1; have HPB4 := Aside0.mk (S5.out.blk (M.length + 4) (at4 _ _ _ _ _ _ _)).1; clear q1 q2 S4; go_wp2_with fail; refine hK.out _ _ HPB4.out (fun hS2 => ?_); clear hK K hS; have hS := hS2; clear hS2; (try simp only [Act.put, List.setIfInBounds_toArray, List.set_cons_zero, List.set_cons_succ]); refine wpAnyH_ready (rs := [8]) (by kernel_rfl) (by simp) ?_; refine AllReadyH.cons (o := { dst := some 47, op := _, type := _, pos := _, after := _, guard := _ }) rfl (fun K hK => ?_) AllReadyH.nil; obtain ⟨ok, hR, hf, hN⟩ := Sep.row (d := K3) (e := T3) (base := w0.heap.size) (v := .slice Ao m co) (xs := o1) S5.out 1 rfl; have hC4 := (Sep.rows (d := K3) (e := T3) (base := w0.heap.size) (A := A4) (m := D.length) (c := c4) (xs := D) S5.out (M.length + 5) (at5 _ _ _ _ _ _ _ _)).2.2; refine Kd.R_append_rows_step K3 (Rr := K3.K _) (w0 := w0) w0.heap.size (by rfl) (.tmp 43) (.tmp 46) 42 T3 (.int .i32 0) 4 rfl Tryd.underlying42 info21 rfl (by decide) (by decide) (.slice Ao m co) o1 D A4 D.length c4 ok (fun _ => False) rfl rfl hR hC4 (fun _ _ h => h) (fun _ h => h.elim) hf S5.out.below S5.out.below.size (by have := HM.out; omega) (fun v1 w5 ho hb hg hat => ?_); have hS6 := hN v1 w5 _ ho hg; rw [← HO2.out] at hS6; have S6 := Aside0.mk hS6; obtain ⟨A6, c6, rfl, hc6, -⟩ := S6.out.reads 1 rfl; obtain ⟨q6, hq6⟩ : ∃ q6, q6 = o2.length := ⟨_, rfl⟩; rw [← hq6] at S6 ⊢; have HPB5 := Aside0.mk (Sep.blk (g := pb) (cells := #[.int .i32 p.f0, .int .i64 p.f1, .int .i64 p.f2]) (t := TP) S6.out (M.length + 4) (at4 _ _ _ _ _ _ _)).1; clear hR hf hN ho hb hg hat hC4 S5 HPB4 hS6 hq6 hc6; refine hK.out _ _ HPB5.out (fun hS2 => ?_); clear hK K hS; have hS := hS2; clear hS2; (try simp only [Act.put, List.setIfInBounds_toArray, List.set_cons_zero, List.set_cons_succ]); refine wpAnyH_take (i := 9) (oi := { dst := some 48, op := _, type := _, pos := _, after := _, guard := _ }) (v := .pointer (some ⟨g, 0, none⟩)) rfl (by kernel_rfl) (by kernel_rfl) (by kernel_rfl) (fun _ _ _ h => h) (Or.inl ⟨by rfl, fun W hW => ?_⟩) hS ?_
              · (go_simp)
              (try simp only [Act.put, List.setIfInBounds_toArray, List.set_cons_zero, List.set_cons_succ]); refine wpAnyH_take (i := 10) (oi := { dst := some 49, op := _, type := _, pos := _, after := _, guard := _ }) (v := .pointer (some ⟨g, 2, none⟩)) rfl (by kernel_rfl) (by kernel_rfl) (by kernel_rfl) (fun _ _ _ h => h) (Or.inl ⟨by rfl, fun W hW => ?_⟩) hS ?_
              · (go_simp)
              (try simp only [Act.put, List.setIfInBounds_toArray, List.set_cons_zero, List.set_cons_succ]); have c2 := blk_cell (Sep.blk (g := g) (cells := segCells gd lim (.slice Ao m co) a1 e cl 0) (t := TS) S6.out 0 rfl).1 2; have f2 := blk_frozen (Sep.blk (g := g) (cells := segCells gd lim (.slice Ao m co) a1 e cl 0) (t := TS) S6.out 0 rfl).1 2; simp only [segCells] at c2
              have S7 := Aside0.mk (show Ls w0 g gd lim cl ad n c ps M o2 a1 e 0 out1 u6 (.slice A6 q6 c6) pb p (w5.setCell ⟨g, 2, none⟩ (.slice A6 q6 c6)) from by
                have h := (Sep.blk_set (g := g) (cells := segCells gd lim (.slice Ao m co) a1 e cl 0) (t := TS) (cells' := segCells gd lim (.slice A6 q6 c6) a1 e cl 0) S6.out 0 rfl 2 (.slice A6 q6 c6) rfl).head (M.length + 5)
                exact (congrArg (fun l => Sep w0 l _) (take5 _ _ _ M _ _ _)).mp h)
              have HPB6 := Aside0.mk (S7.out.blk (M.length + 4) (at4 _ _ _ _ _ _ _)).1; refine wpAnyH_ready (rs := [11]) (by kernel_rfl) (by simp) ?_; refine AllReadyH.cons (o := { dst := none, op := _, type := _, pos := _, after := _, guard := _ }) rfl (fun K hK => ?_) AllReadyH.nil; go_simp; refine hK.out _ _ HPB6.out (fun hS2 => ?_); clear hK K hS hS2 c2 f2; refine wpAnyH_done (by kernel_rfl) ?_ _; go_wp2; go_meet
              case rel => exact ⟨_, S7⟩
            · go_simp
              (go_at_call 57)
              refine (DecG _ (HG.out.below S4.out.below) p.f0 HFP.out.1).mono ?_; rintro E w4 ⟨v4, rfl, q1, q2⟩; rw [← HDD.out] at q1
              have S5 := Aside0.mk (show Sep w0 (blkT g (segCells gd lim (.slice Ao m co) a1 e cl 0) TS :: rowT K3 T3 w0.heap.size (.slice Ao m co) o1 :: rowT kP TP w0.heap.size (.slice (some ad) n c) ps :: (M ++ rowT kG TG w0.heap.size u6 out1 :: blkT pb #[.int .i32 p.f0, .int .i64 p.f1, .int .i64 p.f2] TP :: [rowT K3 T3 w0.heap.size v4 D])) w4 from by
                have h := S4.out.newR q1 q2; simp only [List.cons_append, List.append_assoc, List.nil_append] at h
                exact h)
              obtain ⟨A4, c4, rfl⟩ := Kd.R_slice q1; have HPB4 := Aside0.mk (S5.out.blk (M.length + 4) (at4 _ _ _ _ _ _ _)).1; clear q1 q2 S4; go_wp2_with fail; refine hK.out _ _ HPB4.out (fun hS2 => ?_); clear hK K hS; have hS := hS2; clear hS2; (try simp only [Act.put, List.setIfInBounds_toArray, List.set_cons_zero, List.set_cons_succ]); have c2 := blk_cell (Sep.blk (g := g) (cells := segCells gd lim (.slice Ao m co) a1 e cl 0) (t := TS) S5.out 0 rfl).1 2; simp only [segCells] at c2; refine wpAnyH_ready (rs := [4]) (by kernel_rfl) (by simp) ?_; refine AllReadyH.cons (o := { dst := some 43, op := _, type := _, pos := _, after := _, guard := _ }) rfl (fun K hK => ?_) AllReadyH.nil; go_simp; refine hK.out _ _ hS (fun hS2 => ?_); clear hK K hS2 c2; (try simp only [Act.put, List.setIfInBounds_toArray, List.set_cons_zero, List.set_cons_succ]); refine wpAnyH_ready (rs := [8]) (by kernel_rfl) (by simp) ?_; refine AllReadyH.cons (o := { dst := some 47, op := _, type := _, pos := _, after := _, guard := _ }) rfl (fun K hK => ?_) AllReadyH.nil; obtain ⟨ok, hR, hf, hN⟩ := Sep.row (d := K3) (e := T3) (base := w0.heap.size) (v := .slice Ao m co) (xs := o1) S5.out 1 rfl; have hC4 := (Sep.rows (d := K3) (e := T3) (base := w0.heap.size) (A := A4) (m := D.length) (c := c4) (xs := D) S5.out (M.length + 5) (at5 _ _ _ _ _ _ _ _)).2.2; refine Kd.R_append_rows_step K3 (Rr := K3.K _) (w0 := w0) w0.heap.size (by rfl) (.tmp 43) (.tmp 46) 42 T3 (.int .i32 0) 4 rfl Tryd.underlying42 info21 rfl (by decide) (by decide) (.slice Ao m co) o1 D A4 D.length c4 ok (fun _ => False) rfl rfl hR hC4 (fun _ _ h => h) (fun _ h => h.elim) hf S5.out.below S5.out.below.size (by have := HM.out; omega) (fun v1 w5 ho hb hg hat => ?_); have hS6 := hN v1 w5 _ ho hg; rw [← HO2.out] at hS6; have S6 := Aside0.mk hS6; obtain ⟨A6, c6, rfl, hc6, -⟩ := S6.out.reads 1 rfl; obtain ⟨q6, hq6⟩ : ∃ q6, q6 = o2.length := ⟨_, rfl⟩; rw [← hq6] at S6 ⊢; have HPB5 := Aside0.mk (Sep.blk (g := pb) (cells := #[.int .i32 p.f0, .int .i64 p.f1, .int .i64 p.f2]) (t := TP) S6.out (M.length + 4) (at4 _ _ _ _ _ _ _)).1; clear hR hf hN ho hb hg hat hC4 S5 HPB4 hS6 hq6 hc6; refine hK.out _ _ HPB5.out (fun hS2 => ?_); clear hK K hS; have hS := hS2; clear hS2; (try simp only [Act.put, List.setIfInBounds_toArray, List.set_cons_zero, List.set_cons_succ]); refine wpAnyH_take (i := 9) (oi := { dst := some 48, op := _, type := _, pos := _, after := _, guard := _ }) (v := .pointer (some ⟨g, 0, none⟩)) rfl (by kernel_rfl) (by kernel_rfl) (by kernel_rfl) (fun _ _ _ h => h) (Or.inl ⟨by rfl, fun W hW => ?_⟩) hS ?_
              · (go_simp)
              (try simp only [Act.put, List.setIfInBounds_toArray, List.set_cons_zero, List.set_cons_succ]); refine wpAnyH_take (i := 10) (oi := { dst := some 49, op := _, type := _, pos := _, after := _, guard := _ }) (v := .pointer (some ⟨g, 2, none⟩)) rfl (by kernel_rfl) (by kernel_rfl) (by kernel_rfl) (fun _ _ _ h => h) (Or.inl ⟨by rfl, fun W hW => ?_⟩) hS ?_
              · (go_simp)
              (try simp only [Act.put, List.setIfInBounds_toArray, List.set_cons_zero, List.set_cons_succ]); have c2 := blk_cell (Sep.blk (g := g) (cells := segCells gd lim (.slice Ao m co) a1 e cl 0) (t := TS) S6.out 0 rfl).1 2; have f2 := blk_frozen (Sep.blk (g := g) (cells := segCells gd lim (.slice Ao m co) a1 e cl 0) (t := TS) S6.out 0 rfl).1 2; simp only [segCells] at c2
              have S7 := Aside0.mk (show Ls w0 g gd lim cl ad n c ps M o2 a1 e 0 out1 u6 (.slice A6 q6 c6) pb p (w5.setCell ⟨g, 2, none⟩ (.slice A6 q6 c6)) from by
                have h := (Sep.blk_set (g := g) (cells := segCells gd lim (.slice Ao m co) a1 e cl 0) (t := TS) (cells' := segCells gd lim (.slice A6 q6 c6) a1 e cl 0) S6.out 0 rfl 2 (.slice A6 q6 c6) rfl).head (M.length + 5)
                exact (congrArg (fun l => Sep w0 l _) (take5 _ _ _ M _ _ _)).mp h)
              have HPB6 := Aside0.mk (S7.out.blk (M.length + 4) (at4 _ _ _ _ _ _ _)).1; refine wpAnyH_ready (rs := [11]) (by kernel_rfl) (by simp) ?_; refine AllReadyH.cons (o := { dst := none, op := _, type := _, pos := _, after := _, guard := _ }) rfl (fun K hK => ?_) AllReadyH.nil; go_simp; refine hK.out _ _ HPB6.out (fun hS2 => ?_); clear hK K hS hS2 c2 f2; refine wpAnyH_done (by kernel_rfl) ?_ _; go_wp2; go_meet
              case rel => exact ⟨_, S7⟩
          case rest =>
            clear S3; obtain ⟨ov2, S4⟩ := hcut; obtain ⟨A2, c2, rfl, -, -⟩ := S4.out.reads 1 rfl; obtain ⟨q, hq⟩ : ∃ q, q = o2.length := ⟨_, rfl⟩; have HQ := Aside0.mk hq; rw [← hq] at S4; clear hq; have z1 := blk_cell (S4.out.blk (M.length + 4) (at4 _ _ _ _ _ _ _)).1 1; have z2 := blk_cell (S4.out.blk (M.length + 4) (at4 _ _ _ _ _ _ _)).1 2; have z4 := blk_cell (S4.out.blk 0 rfl).1 4; have f4 := blk_frozen (S4.out.blk 0 rfl).1 4; simp only [segCells] at z4; go_upto_region 10 with (fail); have S5 := Aside0.mk (show Ls w0 g gd lim cl ad n c ps M o2 a1 (p.f1 + p.f2) 0 out1 u6 (.slice A2 q c2) pb p (wc.setCell ⟨g, 4, none⟩ (.int .i64 (p.f1 + p.f2))) from S4.out.blk_set 0 rfl 4 (.int .i64 (p.f1 + p.f2)) rfl); clear z1 z2 z4 f4 S4; generalize (wc.setCell ⟨g, 4, none⟩ (.int .i64 (p.f1 + p.f2))) = w6 at S5 ⊢; have c1 := blk_cell (S5.out.blk 0 rfl).1 1; have c2' := blk_cell (S5.out.blk 0 rfl).1 2; simp only [segCells] at c1 c2'; by_cases hlm : lim < (q : Int)
            · have hd3 : decide (lim < (q : Int)) = true := decide_eq_true hlm; go_quiet (fail); have S6 := Aside0.mk (S5.out.later ((Drawn0.refl w6).step nq).below); clear c1 c2' S5; generalize w6.drewN nq = w7 at S6 ⊢; have c6 := blk_cell (S6.out.blk 0 rfl).1 6; have f6 := blk_frozen (S6.out.blk 0 rfl).1 6; have c2' := blk_cell (S6.out.blk 0 rfl).1 2; have f2' := blk_frozen (S6.out.blk 0 rfl).1 2; simp only [segCells] at c6 c2'; go_upto_region 12 with (fail)
              have S7 := Aside0.mk (show Ls w0 g gd lim cl ad n c ps M [] a1 (p.f1 + p.f2) 6 out1 u6 (.slice none 0 0) pb p ((w7.setCell ⟨g, 6, none⟩ (.int .i64 6)).setCell ⟨g, 2, none⟩ (.slice none 0 0)) from
                (Sep.blk_set (g := g) (cells := segCells gd lim (.slice A2 q c2) a1 (p.f1 + p.f2) cl 6) (t := TS) (cells' := segCells gd lim (.slice none 0 0) a1 (p.f1 + p.f2) cl 6) (S6.out.blk_set 0 rfl 6 (.int .i64 6) rfl) 0 rfl 2 (.slice none 0 0) rfl).let_go K3 T3 w0.heap.size 1 rfl)
              clear c6 f6 c2' f2' S6; generalize ((w7.setCell ⟨g, 6, none⟩ (.int .i64 6)).setCell ⟨g, 2, none⟩ (.slice none 0 0)) = w8 at S7 ⊢; have c6 := blk_cell (S7.out.blk 0 rfl).1 6; simp only [segCells] at c6; go_quiet (fail); have S8 := Aside0.mk (S7.out.later ((Drawn0.refl w8).step nq).below); (have hfin : R = (out1, [], a1, p.f1 + p.f2, true) := by rw [HST2.out, if_pos (by rw [← HO2.out, ← HQ.out]; exact hlm)]); have HF := Aside0.mk hfin; clear hfin c6 S7; go_wp2; go_ret2; rw [HF.out]; have h := (congrArg (fun l => Sep w0 l _) (take4 _ _ _ M _ _)).mp (S8.out.head (M.length + 4)); exact ⟨_, rfl, _, h⟩
            · have hd3 : decide (lim < (q : Int)) = false := decide_eq_false hlm; go_quiet (fail); have S6 := Aside0.mk (S5.out.later ((Drawn0.refl w6).step nq).below); clear c1 c2' S5; generalize w6.drewN nq = w7 at S6 ⊢; (have hfin : R = catT out1 (tk lim (ps.drop (i + 1)) o2 a1 (p.f1 + p.f2)) := by rw [HST2.out, if_neg (by rw [← HO2.out, ← HQ.out]; exact hlm), HO2.out]); have HF := Aside0.mk hfin; clear hfin; go_wp2; go_roundw
              case rel => exact ⟨i + 1, o2, a1, p.f1 + p.f2, out1, by go_num, by omega, hout1, by rw [← HQ.out]; omega, ⟨fun x hx => by rw [HO2.out] at hx; exact (List.mem_append.1 hx).elim (HO1.out x) (HDB.out x)⟩, HF, ⟨_, (congrArg (fun l => Sep w0 l _) (take4 _ _ _ M _ _)).mp (S6.out.head (M.length + 4))⟩⟩
              case measure => simp [intOf]; omega
    · have hd : decide ((i : Int) < (n : Int)) = false := decide_eq_false (by omega); have hd2 : decide (i < n) = false := decide_eq_false hlt
      have hfin : R = (out, o, a, e, false) := by
        have h := HR.out; rw [List.drop_eq_nil_of_le (by have := HN.out; omega)] at h; rw [h]; simp [catT, tk]
      have HF := Aside0.mk hfin; clear hfin HR; go_wp2; go_ret2; rw [HF.out]; exact ⟨_, rfl, HS.out⟩
end Go.Proofs.YthffpkdadffinaaDoor.Sgb
