/-
  Several texts of this claim in one: what its law's proof uses.
-/
import Derived.Test.YthffpkdadffinaaDoorMWT2
import Derived.Test.YthffpkdadffinaaDoorMWT12
import Derived.Test.YthffpkdadffinaaDoorMWT11
import Derived.Test.YthffpkdadffinaaDoorMWT3
import Derived.Lib.SlBytesConst
import Derived.Test.YthffpkdadffinaaDoorMWT8
import Derived.Test.YthffpkdadffinaaDoorMWT9
import Derived.Test.YthffpkdadffinaaDoorMWT10
namespace Go.Proofs.YthffpkdadffinaaDoor.X
open Go.RowKit YthffpkdadffinaaDoorW.PrintWords YthffpkdadffinaaDoorW.PrintLast YthffpkdadffinaaDoorW.PrintMore
attribute [local go_sem] max2_int min2_int max_two min_two max_three min_three max_four min_four   
set_option linter.unusedVariables false
set_option linter.unusedSimpArgs false
def seg_Same.f (k : Nat) (l0 : List Int) (l1 : List Int) : Option (Bool) := (seg_Texts.f l0).bind fun t191 => ((seg_Texts.f l1).bind fun t194 => ((slices_Equal_string_string.f k t191 t194).bind fun t197 => (some t197)))
theorem seg_Same.mono : ∀ a0 a1 k, LeO (seg_Same.f k a0 a1) (seg_Same.f (k + 1) a0 a1) := by
 intro a0 a1 k; unfold seg_Same.f; repeat' first | (with_reducible exact slices_Equal_string_string.mono _ _ _) | (with_reducible exact LeO.refl _) | (with_reducible exact LeO.none _) | (with_reducible refine LeO.ite ?_ ?_) | (with_reducible refine LeO.bind ?_ (fun _ => ?_)) | exact slices_Equal_string_string.mono _ _ _ | exact LeO.none _ | refine LeO.ite ?_ ?_ | refine LeO.bind ?_ (fun _ => ?_)
set_option maxHeartbeats 8000000 in
set_option maxRecDepth 100000 in
theorem seg_Same.calls (k : Nat) (A0 : Option Addr) (c0 : Nat) (l0 : List Int) (A1 : Option Addr) (c1 : Nat) (l1 : List Int) (r : Bool) (w : World) (hr0 : Kd.C (Kd.int .u8) w A0 l0.length l0) (hc0 : l0.length ≤ c0) (hr1 : Kd.C (Kd.int .u8) w A1 l1.length l1) (hc1 : l1.length ≤ c1) (h : seg_Same.f k l0 l1 = some r) (hG0 : Va.G w) :
  Calls Tryd.prog 40 #[.slice A0 l0.length c0, .slice A1 l1.length c1] w fun e w' => e = .returned (.bool r) ∧ Below w.heap.size w w' := by
 have HG := Aside0.mk hG0; clear hG0; have HR0 := Aside0.mk hr0; have HC0 := Aside0.mk hc0; clear hr0 hc0; have HR1 := Aside0.mk hr1; have HC1 := Aside0.mk hc1; clear hr1 hc1; have HB := Aside0.mk (Below.refl w.heap.size w); have H : ((seg_Texts.f l0).bind fun t191 => ((seg_Texts.f l1).bind fun t194 => ((slices_Equal_string_string.f k t191 t194).bind fun t197 => (some t197)))) = some r := h; clear h; replace H := Option.bind_eq_some_iff.mp H; obtain ⟨t191, A30, H⟩ := H; (try dsimp only at H); have A3 := Aside0.mk A30; clear A30; replace H := Option.bind_eq_some_iff.mp H; obtain ⟨t194, A40, H⟩ := H; (try dsimp only at H); have A4 := Aside0.mk A40; clear A40; replace H := Option.bind_eq_some_iff.mp H; obtain ⟨t197, A50, H⟩ := H; replace H : (some t197) = some r := H; have A5 := Aside0.mk A50; clear A50; obtain rfl := Option.some.inj H; go_enter Tryd.func40, Tryd.ntmps40; go_wp2_with (first | ((with_reducible refine gate_callee (f := 41) rfl ?_); refine goesL_ (some 6) rfl rfl Tryd.func41 (by kernel_rfl) rfl #[.slice A0 l0.length c0] rfl (by (try simp only [List.map_toArray, List.map_cons, List.map_nil]); first | done | rfl | (simp only [List.length_drop, List.length_take]; rfl)) ?_; (with_reducible refine (seg_Texts.calls _ _ l0 t191 _ ?side1 ?side2 A3.out (by first | exact HG.out | exact Va.G.below HG.out (by repeat (first | (with_reducible first | exact HB.out | apply below_alloc | apply pw_below_drewN | apply below_drew1) | exact HB.out)))).mono ?_); (case side1 => repeat (first | exact HR0.out | (with_reducible refine Kd.C_alloc ?_ _) | (with_reducible refine Kd.C_drewN ?_ _) | (with_reducible refine Kd.C_drew ?_))); (case side2 => exact HC0.out); rintro e w6 ⟨v192, rfl, ho0, hb⟩; refine ⟨_, rfl, ?_⟩; have n0_ := Aside0.mk (Kd.R_lower ho0 (below_size (by repeat (first | (with_reducible first | exact HB.out | apply below_alloc | apply pw_below_drewN | apply below_drew1) | exact HB.out)))); have n1_ := Aside0.mk (below_step (by repeat (first | (with_reducible first | exact HB.out | apply below_alloc | apply pw_below_drewN | apply below_drew1) | exact HB.out)) hb); clear HB; have HO193 := n0_; have HB := n1_; clear n0_ n1_; (try clear hb); (try clear hb2); (try clear hk); (try clear hi); (try clear ho0)) | ((with_reducible refine gate_callee (f := 41) rfl ?_); refine goesL_ (some 8) rfl rfl Tryd.func41 (by kernel_rfl) rfl #[.slice A1 l1.length c1] rfl (by (try simp only [List.map_toArray, List.map_cons, List.map_nil]); first | done | rfl | (simp only [List.length_drop, List.length_take]; rfl)) ?_; (with_reducible refine (seg_Texts.calls _ _ l1 t194 _ ?side1 ?side2 A4.out (by first | exact HG.out | exact Va.G.below HG.out (by repeat (first | (with_reducible first | exact HB.out | apply below_alloc | apply pw_below_drewN | apply below_drew1) | exact HB.out)))).mono ?_); (case side1 => repeat (first | exact (Kd.C_below HR1.out HB.out) | (with_reducible refine Kd.C_alloc ?_ _) | (with_reducible refine Kd.C_drewN ?_ _) | (with_reducible refine Kd.C_drew ?_))); (case side2 => exact HC1.out); rintro e w7 ⟨v195, rfl, ho0, hb⟩; refine ⟨_, rfl, ?_⟩; have n0_ := Aside0.mk (Kd.R_elder' (by (with_reducible repeat (first | apply Kd.R_alloc | apply Kd.R_drewN | apply Kd.R_drew)); exact HO193.out) (Kd.R_base ho0) hb); have n1_ := Aside0.mk (Kd.R_lower (Kd.R_new' ho0 (Kd.R_lt (by (with_reducible repeat (first | apply Kd.R_alloc | apply Kd.R_drewN | apply Kd.R_drew)); exact HO193.out))) (below_size (by repeat (first | (with_reducible first | exact HB.out | apply below_alloc | apply pw_below_drewN | apply below_drew1) | exact HB.out)))); have n2_ := Aside0.mk (below_step (by repeat (first | (with_reducible first | exact HB.out | apply below_alloc | apply pw_below_drewN | apply below_drew1) | exact HB.out)) hb); clear HO193; clear HB; have HO193 := n0_; have HO196 := n1_; have HB := n2_; clear n0_ n1_ n2_; (try clear hb); (try clear hb2); (try clear hk); (try clear hi); (try clear ho0); obtain ⟨Ao8, co8, eo8⟩ := Kd.R_slice HO193.out; subst eo8; obtain ⟨Ao9, co9, eo9⟩ := Kd.R_slice HO196.out; subst eo9) | ((with_reducible refine gate_callee (f := 80) rfl ?_); refine goesL_ (some 9) rfl rfl Tryd.func80 (by kernel_rfl) rfl #[.slice Ao8 t191.length co8, .slice Ao9 t194.length co9] rfl (by (try simp only [List.map_toArray, List.map_cons, List.map_nil]); first | done | rfl | (simp only [List.length_drop, List.length_take]; rfl)) ?_; (with_reducible refine (slices_Equal_string_string.calls k _ _ t191 _ _ t194 t197 _ ?side1 ?side2 ?side3 ?side4 A5.out).mono ?_); (case side1 => repeat (first | exact (Kd.R_reads' HO193.out).2.2 | (with_reducible refine Kd.C_alloc ?_ _) | (with_reducible refine Kd.C_drewN ?_ _) | (with_reducible refine Kd.C_drew ?_))); (case side2 => exact (Kd.R_reads' HO193.out).2.1); (case side3 => repeat (first | exact (Kd.R_reads' HO196.out).2.2 | (with_reducible refine Kd.C_alloc ?_ _) | (with_reducible refine Kd.C_drewN ?_ _) | (with_reducible refine Kd.C_drew ?_))); (case side4 => exact (Kd.R_reads' HO196.out).2.1); rintro e w' ⟨rfl, ⟨nd, rfl⟩⟩; refine ⟨_, rfl, ?_⟩)); go_ret; exact ⟨by first | rfl | (simp [errW_none, errW_some] <;> rfl) | (simp [*, errW_none, errW_some] <;> rfl), by repeat (first | (with_reducible first | exact HB.out | apply below_alloc | apply pw_below_drewN | apply below_drew1) | exact HB.out)⟩
end Go.Proofs.YthffpkdadffinaaDoor.X
namespace Go.Proofs.YthffpkdadffinaaDoor.Sgf
set_option linter.unusedVariables false
set_option linter.unusedSimpArgs false
open Go.Proofs.YthffpkdadffinaaDoor.Fr (K3 T3)
open Go.Proofs.YthffpkdadffinaaDoor.Ux (Bytes one1 dc rest1 full dec)
open Go.Proofs.YthffpkdadffinaaDoor.Dc (decT)
open Go.RowKit YthffpkdadffinaaDoorW.PrintWords Hp Fm X Va Oa Vp0 Cn Sga Sgb Sgc Sgd
section
variable {w0 w w' : World} {L M : List Th}
theorem litB (W : World) (cs : Array Value) (fr : Nat × Nat) (xs : List Int) (hc : cs.toList = nums .u8 xs) (hm : xs.length ≤ 9223372036854775807) : KB.C (W.alloc (.cells cs 5 fr)) (some ⟨W.heap.size, 0, none⟩) xs.length xs :=
  rdC (lit_reads (k := .u8) (heap_alloc_new W _) hc hm)
end
theorem conv2 (W : World) (o : Obj) (C : Array Value) (n c : Nat) : (convert 23 23 (.slice (some ⟨W.heap.size + 1, 0, none⟩) n c)).run Tryd.prog ((W.alloc o).alloc (.cells C 5)) = .ok (.slice (some ⟨W.heap.size + 1, 0, none⟩) n c) ((W.alloc o).alloc (.cells C 5 (C.size, C.size + 1))) := by
  have := Lib.run_convert_bytes_const (P := Tryd.prog) (W.alloc o) 23 5 C n c Tryd.underlying23 Tryd.underlying5; rw [World.size_alloc] at this; exact this
theorem sameC (W : World) (hG : G W) : Calls Tryd.prog 40 #[.slice (some ⟨W.heap.size, 0, none⟩) 2 2, .slice (some ⟨W.heap.size + 1, 0, none⟩) 3 3] ((W.alloc (.cells #[.int .u8 195, .int .u8 169] 5 (2, 3))).alloc (.cells #[.int .u8 101, .int .u8 204, .int .u8 129] 5 (3, 4))) fun e w' => e = .returned (.bool true) ∧ Below W.heap.size W w' := by
  have b1 := below_alloc (Below.refl W.heap.size W) (.cells #[.int .u8 195, .int .u8 169] 5 (2, 3)); have b2 := below_alloc (Below.refl _ (W.alloc (.cells #[.int .u8 195, .int .u8 169] 5 (2, 3)))) (.cells #[.int .u8 101, .int .u8 204, .int .u8 129] 5 (3, 4)); have b12 := below_then b1 b1.size b2; have h2 := litB (W.alloc (.cells #[.int .u8 195, .int .u8 169] 5 (2, 3))) #[.int .u8 101, .int .u8 204, .int .u8 129] (3, 4) [101, 204, 129] rfl (by simp); rw [World.size_alloc] at h2; (refine (seg_Same.calls 40 _ 2 [195, 169] _ 3 [101, 204, 129] true _ (Kd.C_below (litB W #[.int .u8 195, .int .u8 169] (2, 3) [195, 169] rfl (by simp)) b2) (Nat.le_refl _) h2 (Nat.le_refl _) (by kernel_rfl) (hG.below b12)).mono fun e w' ⟨h1, h3⟩ => ⟨h1, ?_⟩); exact below_then b12 b12.size h3
def g1 : SG := ⟨⟨#[101, 204, 129]⟩, 0, 3⟩
def g2 : SG := ⟨⟨#[120]⟩, 3, 4⟩
def g3 : SG := ⟨⟨#[120]⟩, 0, 1⟩
theorem d1 : dc ([] ++ [101]) 0 = ([⟨101, 0, 1⟩], [], 1) := by kernel_rfl
theorem t1 : tk 8 [⟨101, 0, 1⟩] [] 0 0 = ([], [101], 0, 1, false) := by kernel_rfl
theorem d2 : dc ([] ++ [204]) 1 = ([], [204], 1) := by kernel_rfl
theorem t2 : tk 8 [] [101] 0 1 = ([], [101], 0, 1, false) := rfl
theorem d3 : dc ([204] ++ [129, 120]) 1 = ([⟨769, 1, 2⟩, ⟨120, 3, 1⟩], [], 4) := by kernel_rfl
theorem t3 : tk 8 [⟨769, 1, 2⟩, ⟨120, 3, 1⟩] [101] 0 1 = ([g1], [120], 3, 4, false) := by kernel_rfl
theorem t4 : tk 8 (rest1 [] 4) [120] 3 4 = ([], [120], 3, 4, false) := rfl
theorem f4 : fin ([], [120], 3, 4, false) = [g2] := by kernel_rfl
end Go.Proofs.YthffpkdadffinaaDoor.Sgf
namespace Go.Proofs.YthffpkdadffinaaDoor.X
set_option linter.unusedVariables false
set_option linter.unusedSimpArgs false
open Go.RowKit YthffpkdadffinaaDoorW.PrintWords
end Go.Proofs.YthffpkdadffinaaDoor.X
namespace Go.Proofs.YthffpkdadffinaaDoor.Sgr
set_option linter.unusedVariables false
set_option linter.unusedSimpArgs false
open Go.Proofs.YthffpkdadffinaaDoor.Ux (Bytes one1 dc rest1 full dec)
open Go.RowKit YthffpkdadffinaaDoorW.PrintWords Ev0 X Oa Ob Vp0 Vr Vu Sga Sgb Sgc Sgd Sgp Sgq
theorem fsize (b : List Int) (hB : Bytes b) (hl : b.length ≤ 10000000) : (∀ s ∈ cutS (full b), s.f0.size ≤ 1000000000) ∧ (cutS (full b)).length ≤ b.length := by
  have hfl := Ud.full_len b; have h := cutS_size (full b) (full_fine b hB (by omega)) (by omega); exact ⟨h.1, by omega⟩
theorem splitEv (b : List Int) (hB : Bytes b) (hl : b.length ≤ 10000000) (lim : Int) : Ev (fun k => tremaref04_Split.f k b lim) (splitF lim b) := by
  unfold tremaref04_Split.f; by_cases h1 : lim < 1
  · simp only [if_pos h1]; refine Ev.step (fun k => tremaref04_Split.j0.eq_2 ..) ?_; simp only [if_true]; (have e : splitF lim b = ([], 1) := by unfold splitF; rw [if_pos (Or.inl h1)]); rw [e]; exact Ev.now _
  · simp only [if_neg h1]; refine Ev.step (fun k => tremaref04_Split.j0.eq_2 ..) ?_; by_cases h2 : lim > 64
    · (have e : splitF lim b = ([], 1) := by unfold splitF; rw [if_pos (Or.inr h2)]); simp only [h2, decide_true, if_true]; rw [e]; exact Ev.now _
    · have hs := fsize b hB hl; rw [split_cut lim b hB (by omega) (by omega) (by omega)]; simp only [h2, decide_false, Bool.false_eq_true, if_false]; refine Ev.bind (allEv b hB hl) ?_; refine Ev.bind (goodEv lim (cutS (full b)) (by omega) hs.1) ?_; obtain ⟨g1, g2⟩ := goodS lim (cutS (full b)); cases g2
      · simp only [Bool.false_eq_true, if_false]; exact Ev.now _
      · simp only [if_true]; exact Ev.now _
theorem ba_loop (b : ByteArray) : ∀ (q i : Nat) (r : List UInt8), i + q = b.size → ByteArray.toList.loop b i r = r.reverse ++ b.data.toList.drop i := by
  intro q
  induction q with
  | zero =>
    intro i r h; rw [ByteArray.toList.loop]; rw [if_neg (by omega), List.drop_eq_nil_of_le (by rw [Array.length_toList]; show b.size ≤ i; omega), List.append_nil]
  | succ q ih =>
    intro i r h; (have hi : i < b.data.toList.length := by rw [Array.length_toList]; show i < b.size; omega); rw [ByteArray.toList.loop, if_pos (by omega), ih (i + 1) _ (by omega), List.drop_eq_getElem_cons hi]
    have e : b.get! i = b.data.toList[i] := by
      rw [Array.getElem_toList]; (show b.data[i]! = _); exact getElem!_pos b.data i _
    rw [e]; simp
theorem ba_data (b : ByteArray) : b.toList = b.data.toList := by
  unfold ByteArray.toList; rw [ba_loop b b.size 0 [] (by omega)]; simp
theorem ba_list (a b : ByteArray) : a.toList = b.toList ↔ a = b := by
  rw [ba_data, ba_data]; constructor
  · intro h; cases a; cases b; exact congrArg ByteArray.mk (Array.toList_inj.1 h)
  · intro h; rw [h]
theorem bytesB_mk {l : List Int} (h : Bytes l) : bytesB l = true := by
  unfold bytesB; rw [List.all_eq_true]; intro x hx; have := h x hx; simp; omega
end Go.Proofs.YthffpkdadffinaaDoor.Sgr
namespace Go.Proofs.YthffpkdadffinaaDoor.Oqe
set_option linter.unusedVariables false
set_option linter.unusedSimpArgs false
open Go.Proofs.YthffpkdadffinaaDoor.Vd (decU)
open Go.RowKit YthffpkdadffinaaDoorW.PrintWords Ev0 X Va Ve Vp0 Vr Vu Na Oa Ob
theorem nrm_cut (a b : List Int) (hb : b = [] ∨ ∃ z t, flat b = z :: t ∧ cls z = 0) : nrm (a ++ b) = nrm a ++ nrm b := by
  unfold nrm; rw [flat_app]; refine ordL_cut _ _ ?_; rcases hb with rfl | ⟨z, t, h, hz⟩
  · exact .inl rfl
  · exact .inr ⟨z, t, h, hz⟩
theorem opens_cut (l : List Int) (n : Nat) (hn : n < l.length) (ho : opn l[n] = true) : nrm l = nrm (l.take n) ++ nrm (l.drop n) := by
  have h := nrm_cut (l.take n) (l.drop n) (.inr ?_)
  · rwa [List.take_append_drop] at h
  · rw [List.drop_eq_getElem_cons hn, flat_cons]; have hne := Ve.decF_ne 4 l[n]; unfold opn at ho; (have h0 : cls ((decU l[n]).getD 0 0) = 0 := by simpa using (Bool.and_eq_true_iff.1 ho).1); have e : decU l[n] = Vd.decF 4 l[n] := rfl; rw [← e] at hne
    match hd : decU l[n], hne with
    | z :: t, _ =>
      rw [hd] at h0; exact ⟨z, t ++ flat (l.drop (n + 1)), by simp, by simpa using h0⟩
end Go.Proofs.YthffpkdadffinaaDoor.Oqe
namespace Go.Proofs.YthffpkdadffinaaDoor.Sgt
set_option linter.unusedVariables false
set_option linter.unusedSimpArgs false
open Go.Proofs.YthffpkdadffinaaDoor.Ux (Bytes one1 bnd st cont dc dc_cons dc_nil dc_ind dc_rest dc_len rest1 full dec one1_width bnd_len one1_more)
open Go.Proofs.YthffpkdadffinaaDoor.Ve (opn)
open Go.Proofs.YthffpkdadffinaaDoor.Bk (ful ful_nil ful_cons full_ful)
open Go.Proofs.YthffpkdadffinaaDoor.En (enc enc_len enc_byte)
open Go.Proofs.YthffpkdadffinaaDoor.Ot (rns)
open Go.RowKit YthffpkdadffinaaDoorW.PrintWords Ev0 X Oa Ob Vp0 Vr Vu Sga Sgb Sgc Sgd Sgp Sgq Sgr
theorem ful_pos : ∀ (N : Nat) (b : List Int) (p q : Int), b.length ≤ N → (ful b p).map (·.f0) = (ful b q).map (·.f0)
  | _, [], p, q, _ => by rw [ful_nil, ful_nil]
  | 0, c :: t, p, q, h => by simp at h
  | N + 1, c :: t, p, q, h => by
    rw [ful_cons, ful_cons, List.map_cons, List.map_cons]; have := Ux.drop_lt c t; rw [ful_pos N _ _ (q + (one1 c t).2.1) (by simp only [List.length_cons] at h; omega)]
theorem rns_ful (b : List Int) (p : Int) : (ful b p).map (·.f0) = rns b := ful_pos b.length b p 0 (Nat.le_refl _)
theorem rns_nil : rns [] = [] := by rw [← rns_ful [] 0, ful_nil]; rfl
theorem rns_cons (c : Int) (t : List Int) : rns (c :: t) = (one1 c t).1 :: rns ((c :: t).drop (one1 c t).2.1.toNat) := by
  rw [← rns_ful _ 0, ful_cons, List.map_cons, rns_ful]
def Inv (b : List Int) (a e : Nat) (rs : List Int) : Prop := ∀ m, e ≤ m → rns ((b.take m).drop a) = rs ++ rns ((b.take m).drop e)
def cutT : List Int → List Int → List ByteArray
  | [], rs => [txt rs]
  | x :: t, rs => if opn x = true then txt rs :: cutT t [x] else cutT t (rs ++ [x])
def cutTS : List Int → List ByteArray
  | [] => []
  | x :: t => cutT t [x]
theorem cutR_txt : ∀ (t : List SP) (rs : List Int) (a e : Int), (cutR t rs a e).map (·.f0) = cutT (t.map (·.f0)) rs
  | [], rs, a, e => rfl
  | p :: t, rs, a, e => by
    rw [cutR, List.map_cons, cutT]; split
    · rw [List.map_cons, cutR_txt t]
    · rw [cutR_txt t]
theorem cutT_app : ∀ (t u : List Int) (rs : List Int) (x : Int), opn x = true → cutT (t ++ x :: u) rs = cutT t rs ++ cutT u [x]
  | [], u, rs, x, h => by rw [List.nil_append]; show (if opn x = true then txt rs :: cutT u [x] else cutT u (rs ++ [x])) = _; rw [if_pos h]; rfl
  | y :: t, u, rs, x, h => by
    rw [List.cons_append, cutT, cutT]; split
    · rw [cutT_app t u _ x h]; rfl
    · rw [cutT_app t u _ x h]
theorem cutTS_app (r s : List Int) (h : ∀ x t, s = x :: t → opn x = true) : cutTS (r ++ s) = cutTS r ++ cutTS s := by
  cases s with
  | nil => simp [cutTS]
  | cons x u =>
    cases r with
    | nil => rfl
    | cons y t => exact cutT_app t u [y] x (h x u rfl)
end Go.Proofs.YthffpkdadffinaaDoor.Sgt
namespace Go.Proofs.YthffpkdadffinaaDoor.Sgu
set_option linter.unusedVariables false
set_option linter.unusedSimpArgs false
open Go.Proofs.YthffpkdadffinaaDoor.Ux (Bytes)
open Go.Proofs.YthffpkdadffinaaDoor.Ve (opn)
open Go.Proofs.YthffpkdadffinaaDoor.Ot (rns)
open Go.RowKit YthffpkdadffinaaDoorW.PrintWords Ev0 X Oa Ob Vp0 Vr Vu Sgd Sgt
theorem rns_len (b : List Int) : (rns b).length ≤ b.length := by unfold rns; rw [List.length_map]; exact Ud.full_len b
end Go.Proofs.YthffpkdadffinaaDoor.Sgu
namespace Go.Proofs.YthffpkdadffinaaDoor.X
open Go.RowKit YthffpkdadffinaaDoorW.PrintWords YthffpkdadffinaaDoorW.PrintLast YthffpkdadffinaaDoorW.PrintMore
attribute [local go_sem] max2_int min2_int max_two min_two max_three min_three max_four min_four   
set_option linter.unusedVariables false
set_option linter.unusedSimpArgs false
def tremaref03_Text.f (k : Nat) (l0 : List Int) : Option (ByteArray) := (tremaref01_Runes.f k l0).bind fun t234 => ((tremaref03_Normal.f k t234).bind fun t237 => ((tremaref01_Encode.f k t237).bind fun t240 => (some (strOfNums t240))))
theorem tremaref03_Text.mono : ∀ a0 k, LeO (tremaref03_Text.f k a0) (tremaref03_Text.f (k + 1) a0) := by
 intro a0 k; unfold tremaref03_Text.f; repeat' first | (with_reducible exact tremaref01_Encode.mono _ _) | (with_reducible exact tremaref01_Runes.mono _ _) | (with_reducible exact tremaref03_Normal.mono _ _) | (with_reducible exact LeO.refl _) | (with_reducible exact LeO.none _) | (with_reducible refine LeO.ite ?_ ?_) | (with_reducible refine LeO.bind ?_ (fun _ => ?_)) | exact tremaref01_Encode.mono _ _ | exact tremaref01_Runes.mono _ _ | exact tremaref03_Normal.mono _ _ | exact LeO.none _ | refine LeO.ite ?_ ?_ | refine LeO.bind ?_ (fun _ => ?_)
set_option maxHeartbeats 8000000 in
set_option maxRecDepth 100000 in
theorem tremaref03_Text.calls (k : Nat) (A0 : Option Addr) (c0 : Nat) (l0 : List Int) (r : ByteArray) (w : World) (hr0 : Kd.C (Kd.int .u8) w A0 l0.length l0) (hc0 : l0.length ≤ c0) (h : tremaref03_Text.f k l0 = some r) :
  Calls Tryd.prog 34 #[.slice A0 l0.length c0] w fun e w' => e = .returned (.string r) ∧ Below w.heap.size w w' := by
 have HR0 := Aside0.mk hr0; have HC0 := Aside0.mk hc0; clear hr0 hc0; have HB := Aside0.mk (Below.refl w.heap.size w); have H : ((tremaref01_Runes.f k l0).bind fun t234 => ((tremaref03_Normal.f k t234).bind fun t237 => ((tremaref01_Encode.f k t237).bind fun t240 => (some (strOfNums t240))))) = some r := h; clear h; replace H := Option.bind_eq_some_iff.mp H; obtain ⟨t234, A20, H⟩ := H; (try dsimp only at H); have A2 := Aside0.mk A20; clear A20; replace H := Option.bind_eq_some_iff.mp H; obtain ⟨t237, A30, H⟩ := H; (try dsimp only at H); have A3 := Aside0.mk A30; clear A30; replace H := Option.bind_eq_some_iff.mp H; obtain ⟨t240, A40, H⟩ := H; replace H : (some (strOfNums t240)) = some r := H; have A4 := Aside0.mk A40; clear A40; obtain rfl := Option.some.inj H; go_enter Tryd.func34, Tryd.ntmps34; go_wp2_with (first | ((with_reducible refine gate_callee (f := 36) rfl ?_); refine goesL_ (some 4) rfl rfl Tryd.func36 (by kernel_rfl) rfl #[.slice A0 l0.length c0] rfl (by (try simp only [List.map_toArray, List.map_cons, List.map_nil]); first | done | rfl | (simp only [List.length_drop, List.length_take]; rfl)) ?_; (with_reducible refine (tremaref01_Runes.calls k _ _ l0 t234 _ ?side1 ?side2 A2.out).mono ?_); (case side1 => repeat (first | exact HR0.out | (with_reducible refine Kd.C_alloc ?_ _) | (with_reducible refine Kd.C_drewN ?_ _) | (with_reducible refine Kd.C_drew ?_))); (case side2 => exact HC0.out); rintro e w5 ⟨v235, rfl, ho0, hb⟩; refine ⟨_, rfl, ?_⟩; have n0_ := Aside0.mk (Kd.R_lower ho0 (below_size (by repeat (first | (with_reducible first | exact HB.out | apply below_alloc | apply pw_below_drewN | apply below_drew1) | exact HB.out)))); have n1_ := Aside0.mk (below_step (by repeat (first | (with_reducible first | exact HB.out | apply below_alloc | apply pw_below_drewN | apply below_drew1) | exact HB.out)) hb); clear HB; have HO236 := n0_; have HB := n1_; clear n0_ n1_; (try clear hb); (try clear hb2); (try clear hk); (try clear hi); (try clear ho0); obtain ⟨Ao6, co6, eo6⟩ := Kd.R_slice HO236.out; subst eo6) | ((with_reducible refine gate_callee (f := 74) rfl ?_); refine goesL_ (some 5) rfl rfl Tryd.func74 (by kernel_rfl) rfl #[.slice Ao6 t234.length co6] rfl (by (try simp only [List.map_toArray, List.map_cons, List.map_nil]); first | done | rfl | (simp only [List.length_drop, List.length_take]; rfl)) ?_; (with_reducible refine (tremaref03_Normal.calls k _ _ t234 t237 _ ?side1 ?side2 A3.out).mono ?_); (case side1 => repeat (first | exact (Kd.R_reads' HO236.out).2.2 | (with_reducible refine Kd.C_alloc ?_ _) | (with_reducible refine Kd.C_drewN ?_ _) | (with_reducible refine Kd.C_drew ?_))); (case side2 => exact (Kd.R_reads' HO236.out).2.1); rintro e w7 ⟨v238, rfl, ho0, hb⟩; refine ⟨_, rfl, ?_⟩; have n0_ := Aside0.mk (Kd.R_elder' (by (with_reducible repeat (first | apply Kd.R_alloc | apply Kd.R_drewN | apply Kd.R_drew)); exact HO236.out) (Kd.R_base ho0) hb); have n1_ := Aside0.mk (Kd.R_lower (Kd.R_new' ho0 (Kd.R_lt (by (with_reducible repeat (first | apply Kd.R_alloc | apply Kd.R_drewN | apply Kd.R_drew)); exact HO236.out))) (below_size (by repeat (first | (with_reducible first | exact HB.out | apply below_alloc | apply pw_below_drewN | apply below_drew1) | exact HB.out)))); have n2_ := Aside0.mk (below_step (by repeat (first | (with_reducible first | exact HB.out | apply below_alloc | apply pw_below_drewN | apply below_drew1) | exact HB.out)) hb); clear HO236; clear HB; have HO236 := n0_; have HO239 := n1_; have HB := n2_; clear n0_ n1_ n2_; (try clear hb); (try clear hb2); (try clear hk); (try clear hi); (try clear ho0); obtain ⟨Ao8, co8, eo8⟩ := Kd.R_slice HO239.out; subst eo8) | ((with_reducible refine gate_callee (f := 76) rfl ?_); refine goesL_ (some 6) rfl rfl Tryd.func76 (by kernel_rfl) rfl #[.slice Ao8 t237.length co8] rfl (by (try simp only [List.map_toArray, List.map_cons, List.map_nil]); first | done | rfl | (simp only [List.length_drop, List.length_take]; rfl)) ?_; (with_reducible refine (tremaref01_Encode.calls k _ _ t237 t240 _ ?side1 ?side2 A4.out).mono ?_); (case side1 => repeat (first | exact (Kd.R_reads' HO239.out).2.2 | (with_reducible refine Kd.C_alloc ?_ _) | (with_reducible refine Kd.C_drewN ?_ _) | (with_reducible refine Kd.C_drew ?_))); (case side2 => exact (Kd.R_reads' HO239.out).2.1); rintro e w9 ⟨v241, rfl, ho0, hb⟩; refine ⟨_, rfl, ?_⟩; have n0_ := Aside0.mk (Kd.R_below (by (with_reducible repeat (first | apply Kd.R_alloc | apply Kd.R_drewN | apply Kd.R_drew)); exact HO236.out) hb); have n1_ := Aside0.mk (Kd.R_below (by (with_reducible repeat (first | apply Kd.R_alloc | apply Kd.R_drewN | apply Kd.R_drew)); exact HO239.out) hb); have n2_ := Aside0.mk (Kd.R_lower ho0 (below_size (by repeat (first | (with_reducible first | exact HB.out | apply below_alloc | apply pw_below_drewN | apply below_drew1) | exact HB.out)))); have n3_ := Aside0.mk (below_step (by repeat (first | (with_reducible first | exact HB.out | apply below_alloc | apply pw_below_drewN | apply below_drew1) | exact HB.out)) hb); clear HO236; clear HO239; clear HB; have HO236 := n0_; have HO239 := n1_; have HO242 := n2_; have HB := n3_; clear n0_ n1_ n2_ n3_; (try clear hb); (try clear hb2); (try clear hk); (try clear hi); (try clear ho0); have hcv10 := own_string (P := Tryd.prog) Tryd.underlying23 Tryd.underlying5 Tryd.underlying9 (Kd.own_of_R HO242.out))); go_ret; exact ⟨by first | rfl | (simp [errW_none, errW_some] <;> rfl) | (simp [*, errW_none, errW_some] <;> rfl), by repeat (first | (with_reducible first | exact HB.out | apply below_alloc | apply pw_below_drewN | apply below_drew1) | exact HB.out)⟩
end Go.Proofs.YthffpkdadffinaaDoor.X
namespace Go.Proofs.YthffpkdadffinaaDoor.Sgv
set_option linter.unusedVariables false
set_option linter.unusedSimpArgs false
open Go.Proofs.YthffpkdadffinaaDoor.Ux (Bytes full)
open Go.Proofs.YthffpkdadffinaaDoor.Ve (opn)
open Go.Proofs.YthffpkdadffinaaDoor.Ot (rns)
open Go.Proofs.YthffpkdadffinaaDoor.En (enc enc_len enc_byte enc_append)
open Go.RowKit YthffpkdadffinaaDoorW.PrintWords Ev0 X Oa Ob Vp0 Vr Vu Sga Sgb Sgd Sgp Sgq Sgt Sgu
def catB : List ByteArray → ByteArray
  | [] => ⟨#[]⟩
  | x :: t => x ++ catB t
theorem ba_ext {a b : ByteArray} (h : a.data.toList = b.data.toList) : a = b := by
  cases a; cases b; exact congrArg ByteArray.mk (Array.toList_inj.1 h)
theorem ba_app (a b : ByteArray) : (a ++ b).data.toList = a.data.toList ++ b.data.toList := by
  rw [ByteArray.data_append, Array.toList_append]
theorem str_app (a b : List Int) : strOfNums (a ++ b) = strOfNums a ++ strOfNums b := by
  refine ba_ext ?_; rw [ba_app, strOfNums_data, strOfNums_data, strOfNums_data, List.map_append]
theorem txt_app (a b : List Int) (x : Int) (t : List Int) (hb : b = x :: t) (ho : opn x = true) : txt (a ++ b) = txt a ++ txt b := by
  have h := Oqe.opens_cut (a ++ b) a.length (by rw [hb, List.length_append, List.length_cons]; omega) (by rw [List.getElem_append_right (Nat.le_refl _)]; simp [hb, ho]); rw [List.take_left, List.drop_left] at h; unfold txt; rw [h, enc_append, str_app]
theorem cutT_cat : ∀ (t rs : List Int), catB (cutT t rs) = txt (rs ++ t)
  | [], rs => by
    rw [List.append_nil]; refine ba_ext ?_; (show (txt rs ++ (⟨#[]⟩ : ByteArray)).data.toList = _); rw [ba_app]; simp
  | x :: t, rs => by
    rw [cutT]; split
    · rename_i h; (show txt rs ++ catB (cutT t [x]) = _); rw [cutT_cat t [x], txt_app rs (x :: t) x t rfl h]
      rfl
    · rw [cutT_cat t (rs ++ [x]), List.append_assoc]
      rfl
theorem cutTS_cat (r : List Int) : catB (cutTS r) = txt r := by
  cases r with
  | nil => rfl
  | cons x t => exact cutT_cat t [x]
theorem textEv (b : List Int) (hB : Bytes b) (hl : b.length ≤ 50000000) : Ev (fun k => tremaref03_Text.f k b) (txt (rns b)) := by
  have h1 : ∀ x ∈ rns b, I32 x := Ot.runes32 b hB; have hr := rns_len b; have n1 := nrm_len3 (rns b) h1; unfold tremaref03_Text.f; refine Ev.bind (Ot.runesEv b hB (by omega)) ?_; refine Ev.bind (refNEv _ h1 (by omega)) ?_; refine Ev.bind (Ev.of (tremaref01_Encode.mono (nrm (rns b))) (En.ref_pure (nrm (rns b)) (by omega))) ?_; exact Ev.now _
end Go.Proofs.YthffpkdadffinaaDoor.Sgv
namespace Go.Proofs.YthffpkdadffinaaDoor.Bkg
set_option linter.unusedVariables false
set_option linter.unusedSimpArgs false
open Go.RowKit YthffpkdadffinaaDoorW.PrintWords Hp Ux En Rt X
theorem vld_bad : vld 65533 = true := by decide
theorem one1_good (c : Int) (t : List Int) (hc : 0 ≤ c ∧ c ≤ 255) (hB : Bytes t) : vld (one1 c t).1 = true ∧ ((one1 c t).1 ≠ 65533 → encv (one1 c t).1 = (c :: t).take (one1 c t).2.1.toNat) := by
  unfold one1 bnd st; by_cases h1 : c < 128
  · rw [if_pos h1, if_pos h1]; simp only [cont]; refine ⟨by simp only [vld, decide_eq_true_eq]; omega, fun _ => ?_⟩; unfold encv; rw [if_pos h1]; rfl
  · rw [if_neg h1, if_neg h1]; by_cases h2 : c < 194 ∨ 244 < c
    · rw [if_pos h2]; exact ⟨vld_bad, fun h => absurd rfl h⟩
    · rw [if_neg h2]; by_cases h3 : c < 224
      · rw [if_pos h3, if_pos h3]
        cases t with
        | nil => exact ⟨vld_bad, fun h => absurd rfl h⟩
        | cons x t =>
          simp only [cont]; by_cases hx : x < 128 ∨ 191 < x
          · rw [if_pos hx]; exact ⟨vld_bad, fun h => absurd rfl h⟩
          · rw [if_neg hx]; simp only; refine ⟨by simp only [vld, decide_eq_true_eq]; omega, fun _ => ?_⟩; unfold encv; rw [if_neg (by omega), if_pos (by omega)]; (show _ = [c, x]); congr 1
            · omega
            · congr 1; omega
      · rw [if_neg h3, if_neg h3]; by_cases h4 : c < 240
        · rw [if_pos h4, if_pos h4]
          cases t with
          | nil => exact ⟨vld_bad, fun h => absurd rfl h⟩
          | cons x t =>
            simp only [cont]; by_cases hx : x < (if c = 224 then 160 else 128) ∨ (if c = 237 then 159 else 191) < x
            · rw [if_pos hx]; exact ⟨vld_bad, fun h => absurd rfl h⟩
            · rw [if_neg hx]
              cases t with
              | nil => exact ⟨vld_bad, fun h => absurd rfl h⟩
              | cons y t =>
                simp only [cont]; by_cases hy : y < 128 ∨ 191 < y
                · rw [if_pos hy]; exact ⟨vld_bad, fun h => absurd rfl h⟩
                · rw [if_neg hy]; simp only
                  have hx' : (c = 224 → 160 ≤ x) ∧ (c = 237 → x ≤ 159) ∧ 128 ≤ x ∧ x ≤ 191 := by
                    refine ⟨fun h => ?_, fun h => ?_, ?_, ?_⟩
                    · rw [if_pos h] at hx; omega
                    · rw [if_pos h] at hx; omega
                    · split at hx <;> omega
                    · split at hx <;> split at hx <;> omega
                  clear hx; refine ⟨by simp only [vld, decide_eq_true_eq]; omega, fun _ => ?_⟩; unfold encv; rw [if_neg (by omega), if_neg (by omega), if_pos (by omega)]; (show _ = [c, x, y]); congr 1
                  · omega
                  · congr 1
                    · omega
                    · congr 1; omega
        · rw [if_neg h4, if_neg h4]
          cases t with
          | nil => exact ⟨vld_bad, fun h => absurd rfl h⟩
          | cons x t =>
            simp only [cont]; by_cases hx : x < (if c = 240 then 144 else 128) ∨ (if c = 244 then 143 else 191) < x
            · rw [if_pos hx]; exact ⟨vld_bad, fun h => absurd rfl h⟩
            · rw [if_neg hx]
              cases t with
              | nil => exact ⟨vld_bad, fun h => absurd rfl h⟩
              | cons y t =>
                simp only [cont]; by_cases hy : y < 128 ∨ 191 < y
                · rw [if_pos hy]; exact ⟨vld_bad, fun h => absurd rfl h⟩
                · rw [if_neg hy]
                  cases t with
                  | nil => exact ⟨vld_bad, fun h => absurd rfl h⟩
                  | cons z t =>
                    simp only [cont]; by_cases hz : z < 128 ∨ 191 < z
                    · rw [if_pos hz]; exact ⟨vld_bad, fun h => absurd rfl h⟩
                    · rw [if_neg hz]; simp only
                      have hx' : (c = 240 → 144 ≤ x) ∧ (c = 244 → x ≤ 143) ∧ 128 ≤ x ∧ x ≤ 191 := by
                        refine ⟨fun h => ?_, fun h => ?_, ?_, ?_⟩
                        · rw [if_pos h] at hx; omega
                        · rw [if_pos h] at hx; omega
                        · split at hx <;> omega
                        · split at hx <;> split at hx <;> omega
                      clear hx; refine ⟨by simp only [vld, decide_eq_true_eq]; omega, fun _ => ?_⟩; unfold encv; rw [if_neg (by omega), if_neg (by omega), if_neg (by omega)]; (show _ = [c, x, y, z]); congr 1
                      · omega
                      · congr 1
                        · omega
                        · congr 1
                          · omega
                          · congr 1; omega
end Go.Proofs.YthffpkdadffinaaDoor.Bkg
namespace Go.Proofs.YthffpkdadffinaaDoor.Sgw
set_option linter.unusedVariables false
set_option linter.unusedSimpArgs false
open Go.Proofs.YthffpkdadffinaaDoor.Ux (Bytes full one1)
open Go.Proofs.YthffpkdadffinaaDoor.Ve (opn)
open Go.Proofs.YthffpkdadffinaaDoor.Vd (decU keys cases3)
open Go.Proofs.YthffpkdadffinaaDoor.Na (ordL ordL_mem ordL_starter)
open Go.Proofs.YthffpkdadffinaaDoor.Ot (rns)
open Go.Proofs.YthffpkdadffinaaDoor.En (enc enc_len enc_byte enc_append vld fixr)
open Go.RowKit YthffpkdadffinaaDoorW.PrintWords Ev0 X Va Oa Ob Vp0 Vr Vu Sga Sgb Sgd Sgp Sgq Sgt Sgu Sgv
def Shut (l : List Int) : Prop := ∀ x ∈ l, opn x = false
theorem dec_shut (r : Int) (hr : I32 r) (h : opn r = false) : Shut (decU r) := by
  have hb := bottom r hr; have ho := opn_first r hr; intro y hy
  cases hd : decU r with
  | nil => have := hb.lo; rw [hd] at this; simp at this
  | cons z t =>
    rw [hd] at hy ho; rcases List.mem_cons.1 hy with rfl | hy
    · rw [← h, ← ho]; rfl
    · exact hb.shut y (by rw [hd]; exact hy)
theorem flat_shut (l : List Int) (hl : ∀ x ∈ l, I32 x) (h : Shut l) : Shut (flat l) := by
  intro y hy; unfold flat at hy; obtain ⟨x, hx, hy⟩ := List.mem_flatMap.1 hy; exact dec_shut x (hl x hx) (h x hx) y hy
theorem nrm_shut (l : List Int) (hl : ∀ x ∈ l, I32 x) (h : Shut l) : Shut (nrm l) := fun y hy => flat_shut l hl h y ((ordL_mem _ _).1 hy)
theorem nrm_open (x : Int) (t : List Int) (hl : ∀ y ∈ x :: t, I32 y) (ho : opn x = true) : ∃ y u v, nrm (x :: t) = y :: ordL (u ++ v) ∧ opn y = true ∧ Shut u ∧ v = flat t := by
  have hx := hl x (List.mem_cons_self ..); have hb := bottom x hx; have hf := opn_first x hx
  cases hd : decU x with
  | nil => have := hb.lo; rw [hd] at this; simp at this
  | cons z w =>
    rw [hd] at hf; (have hz : opn z = true := by rw [← ho, ← hf]; rfl); have hpz := hb.zero z (by rw [hd]; exact List.mem_cons_self ..)
    have hc : cls z = 0 := by
      rw [opn_zero z hpz] at hz
      simpa using (Bool.and_eq_true_iff.1 hz).1
    refine ⟨z, w, flat t, ?_, hz, fun y hy => hb.shut y (by rw [hd]; exact hy), rfl⟩; unfold nrm; rw [flat_cons, hd]; have h := ordL_starter [] (w ++ flat t) hc; exact h
theorem cutT_shut : ∀ (u rs : List Int), Shut u → cutT u rs = [txt (rs ++ u)]
  | [], rs, _ => by rw [List.append_nil]; rfl
  | x :: u, rs, h => by
    rw [cutT, h x (List.mem_cons_self ..)]; simp only [Bool.false_eq_true, if_false]; rw [cutT_shut u _ (fun y hy => h y (List.mem_cons_of_mem _ hy)), List.append_assoc]
    rfl
theorem txt_nrm (l : List Int) (hl : ∀ x ∈ l, I32 x) : txt (nrm l) = txt l := by unfold txt; rw [nrm_id l hl]
theorem seg_nrm (x : Int) (t : List Int) (hl : ∀ y ∈ x :: t, I32 y) (h : Shut t) : cutTS (nrm (x :: t)) = [txt (x :: t)] := by
  have hne : nrm (x :: t) ≠ [] := by
    intro e; have h1 := nrm_len (x :: t); rw [e] at h1; exact flat_ne (x :: t) (by simp) (List.length_eq_zero_iff.1 h1.symm)
  have hsh : ∃ y u, nrm (x :: t) = y :: u ∧ Shut u := by
    by_cases ho : opn x = true
    · obtain ⟨y, u, v, e, _, hu, hv⟩ := nrm_open x t hl ho; refine ⟨y, _, e, fun z hz => ?_⟩; rcases List.mem_append.1 ((ordL_mem _ _).1 hz) with h1 | h1
      · exact hu z h1
      · rw [hv] at h1; exact flat_shut t (fun y hy => hl y (List.mem_cons_of_mem _ hy)) h z h1
    · (have ho2 : opn x = false := by simpa using ho); have hs := nrm_shut (x :: t) hl (by intro z hz; rcases List.mem_cons.1 hz with rfl | hz; (· exact ho2); (· exact h z hz))
      cases hn : nrm (x :: t) with
      | nil => exact absurd hn hne
      | cons y u => exact ⟨y, u, rfl, fun z hz => hs z (by rw [hn]; exact List.mem_cons_of_mem _ hz)⟩
  obtain ⟨y, u, e, hu⟩ := hsh; rw [e]; (show cutT u [y] = _); rw [cutT_shut u [y] hu]; (show [txt (y :: u)] = _); rw [← e, txt_nrm _ hl]
theorem cut_nrm : ∀ (t : List Int) (x : Int) (v : List Int), (∀ y ∈ (x :: v) ++ t, I32 y) → Shut v → cutTS (nrm ((x :: v) ++ t)) = cutT t (x :: v)
  | [], x, v, hl, hv => by
    rw [List.append_nil] at hl ⊢; exact seg_nrm x v hl hv
  | z :: t, x, v, hl, hv => by
    (have hl1 : ∀ y ∈ x :: v, I32 y := fun y hy => hl y (List.mem_append_left _ hy)); (have hl2 : ∀ y ∈ z :: t, I32 y := fun y hy => hl y (List.mem_append_right _ hy)); rw [cutT]; by_cases ho : opn z = true
    · rw [if_pos ho]; have h := Oqe.opens_cut ((x :: v) ++ z :: t) (x :: v).length (by rw [List.length_append, List.length_cons (a := z)]; omega) (by rw [List.getElem_append_right (Nat.le_refl _)]; simp [ho]); rw [List.take_left, List.drop_left] at h; rw [h, cutTS_app, seg_nrm x v hl1 hv]
      · have ih := cut_nrm t z [] (by simpa using hl2) (fun _ h => by cases h); simp only [List.singleton_append] at ih ⊢; rw [ih]
      · intro a b hab; obtain ⟨y, u, w, e, hy, _⟩ := nrm_open z t hl2 ho; rw [e] at hab; rw [← (List.cons.inj hab).1]; exact hy
    · (have ho2 : opn z = false := by simpa using ho); rw [if_neg ho]; (have e : (x :: v) ++ z :: t = (x :: (v ++ [z])) ++ t := by simp); rw [e] at hl ⊢; rw [cut_nrm t x (v ++ [z]) hl (by intro y hy; rcases List.mem_append.1 hy with h | h; (· exact hv y h); (· rw [List.mem_singleton.1 h]; exact ho2))]
      rfl
theorem cutTS_nrm (r : List Int) (hl : ∀ y ∈ r, I32 y) : cutTS (nrm r) = cutTS r := by
  cases r with
  | nil => rfl
  | cons x t => exact cut_nrm t x [] hl (fun _ h => by cases h)
theorem vld_keys : ∀ r ∈ keys, (decU r).all vld = true := by decide +kernel
theorem vld_dec (r : Int) (h : vld r = true) : ∀ y ∈ decU r, vld y = true := by
  rcases cases3 r with h1 | ⟨s, hs, rfl⟩ | h1
  · exact List.all_eq_true.1 (vld_keys r h1)
  · intro y hy; rw [syl_dec s hs] at hy
    have h5 : y = 4352 + ((s / 588 : Nat) : Int) ∨ y = 4449 + ((s % 588 / 28 : Nat) : Int) ∨ y = 4519 + ((s % 28 : Nat) : Int) := by
      rcases List.mem_append.1 hy with h | h
      · rcases List.mem_cons.1 h with h | h
        · exact .inl h
        · exact .inr (.inl (List.mem_singleton.1 h))
      · split at h
        · cases h
        · exact .inr (.inr (List.mem_singleton.1 h))
    unfold vld; rw [decide_eq_true_eq]; omega
  · intro y hy; rw [dec_zero r h1, List.mem_singleton] at hy; rw [hy]; exact h
theorem vld_nrm (l : List Int) (h : ∀ x ∈ l, vld x = true) : ∀ y ∈ nrm l, vld y = true := by
  intro y hy; have hy := (ordL_mem _ _).1 hy; unfold flat at hy; obtain ⟨x, hx, hy⟩ := List.mem_flatMap.1 hy; exact vld_dec x (h x hx) y hy
theorem vld_rns : ∀ (N : Nat) (b : List Int), b.length ≤ N → Bytes b → ∀ y ∈ rns b, vld y = true
  | _, [], _, _ => by rw [rns_nil]; intro y hy; cases hy
  | 0, c :: t, h, _ => by simp at h
  | N + 1, c :: t, h, hB => by
    rw [rns_cons]; intro y hy; rcases List.mem_cons.1 hy with rfl | hy
    · exact (Bkg.one1_good c t (hB c (List.mem_cons_self ..)) (fun x hx => hB x (List.mem_cons_of_mem _ hx))).1
    · have := Ux.drop_lt c t; exact vld_rns N _ (by simp only [List.length_cons] at h; omega) (fun x hx => hB x (List.mem_of_mem_drop hx)) y hy
theorem rns_enc (l : List Int) (h : ∀ x ∈ l, vld x = true) : rns (enc l) = l := by
  have := Bk.ful_enc l 0; rw [rns_ful] at this; rw [this]; (have e : ∀ x ∈ l, fixr x = x := fun x hx => by unfold fixr; rw [if_pos (h x hx)]); rw [List.map_congr_left (g := id) (by intro x hx; exact e x hx), List.map_id]
theorem r32 (a : List Int) (ha : Bytes a) : ∀ x ∈ rns a, I32 x := Ot.runes32 a ha
theorem key (a b : List Int) (ha : Bytes a) (hb : Bytes b) : cutTS (rns a) = cutTS (rns b) ↔ txt (rns a) = txt (rns b) := by
  constructor
  · intro h; rw [← cutTS_cat, ← cutTS_cat, h]
  · intro h; have h1 := Bk.str_inj (enc_byte _) (enc_byte _) h; have va := vld_nrm _ (vld_rns a.length a (Nat.le_refl _) ha); have vb := vld_nrm _ (vld_rns b.length b (Nat.le_refl _) hb); (have h2 : nrm (rns a) = nrm (rns b) := by rw [← rns_enc _ va, ← rns_enc _ vb, h1]); rw [← cutTS_nrm _ (r32 a ha), ← cutTS_nrm _ (r32 b hb), h2]
def nfd (a : List Int) : List Int := enc (nrm (rns a))
theorem nfd_len (a : List Int) (ha : Bytes a) : (nfd a).length ≤ 12 * a.length := by
  have h1 := nrm_len3 (rns a) (Ot.runes32 a ha); have h2 := rns_len a; have h3 := (enc_len (nrm (rns a))).2; unfold nfd; omega
theorem nfd_byte (a : List Int) : Bytes (nfd a) := enc_byte _
end Go.Proofs.YthffpkdadffinaaDoor.Sgw
namespace Go.Proofs.YthffpkdadffinaaDoor.X
open Go.RowKit YthffpkdadffinaaDoorW.PrintWords YthffpkdadffinaaDoorW.PrintLast YthffpkdadffinaaDoorW.PrintMore
attribute [local go_sem] max2_int min2_int max_two min_two max_three min_three max_four min_four   
set_option linter.unusedVariables false
set_option linter.unusedSimpArgs false
def ucd_listed.f (a0 : Int) : Option ((List (S46))) := if a0 = 6 then (some (([(⟨32, 32⟩ : S46), (⟨160, 160⟩ : S46), (⟨8192, 8202⟩ : S46), (⟨8232, 8233⟩ : S46), (⟨12288, 12288⟩ : S46)] : List (S46)))) else (if a0 = 3 then (some (([(⟨48, 57⟩ : S46), (⟨178, 179⟩ : S46), (⟨185, 185⟩ : S46), (⟨188, 190⟩ : S46), (⟨1632, 1641⟩ : S46), (⟨65296, 65305⟩ : S46)] : List (S46)))) else (if a0 = 2 then (some (([(⟨768, 879⟩ : S46), (⟨1155, 1161⟩ : S46), (⟨8400, 8412⟩ : S46), (⟨12441, 12442⟩ : S46)] : List (S46)))) else (if a0 = 4 then (some (([(⟨33, 35⟩ : S46), (⟨37, 42⟩ : S46), (⟨44, 47⟩ : S46), (⟨58, 59⟩ : S46), (⟨63, 64⟩ : S46), (⟨91, 93⟩ : S46), (⟨95, 95⟩ : S46), (⟨123, 123⟩ : S46), (⟨125, 125⟩ : S46), (⟨161, 161⟩ : S46), (⟨167, 167⟩ : S46), (⟨171, 171⟩ : S46), (⟨182, 183⟩ : S46), (⟨187, 187⟩ : S46), (⟨191, 191⟩ : S46), (⟨903, 903⟩ : S46), (⟨8208, 8231⟩ : S46), (⟨8240, 8259⟩ : S46), (⟨12289, 12291⟩ : S46)] : List (S46)))) else (if a0 = 5 then (some (([(⟨36, 36⟩ : S46), (⟨43, 43⟩ : S46), (⟨60, 62⟩ : S46), (⟨94, 94⟩ : S46), (⟨96, 96⟩ : S46), (⟨124, 124⟩ : S46), (⟨126, 126⟩ : S46), (⟨162, 166⟩ : S46), (⟨168, 169⟩ : S46), (⟨172, 172⟩ : S46), (⟨174, 177⟩ : S46), (⟨180, 180⟩ : S46), (⟨184, 184⟩ : S46), (⟨215, 215⟩ : S46), (⟨247, 247⟩ : S46), (⟨8352, 8384⟩ : S46), (⟨8592, 8959⟩ : S46), (⟨65533, 65533⟩ : S46), (⟨128512, 128591⟩ : S46)] : List (S46)))) else (if a0 = 1 then (some (([(⟨65, 90⟩ : S46), (⟨97, 122⟩ : S46), (⟨170, 170⟩ : S46), (⟨181, 181⟩ : S46), (⟨186, 186⟩ : S46), (⟨192, 214⟩ : S46), (⟨216, 246⟩ : S46), (⟨248, 687⟩ : S46), (⟨902, 902⟩ : S46), (⟨904, 1153⟩ : S46), (⟨1162, 1327⟩ : S46), (⟨4352, 4607⟩ : S46), (⟨7680, 8124⟩ : S46), (⟨8486, 8486⟩ : S46), (⟨8490, 8491⟩ : S46), (⟨12353, 12438⟩ : S46), (⟨12449, 12538⟩ : S46), (⟨19968, 40959⟩ : S46), (⟨44032, 55203⟩ : S46)] : List (S46)))) else (some ([] : List (S46))))))))
set_option maxHeartbeats 8000000 in
set_option maxRecDepth 100000 in
theorem ucd_listed.calls (a0 : Int) (r : List (S46)) (w : World) (h : ucd_listed.f a0 = some r) :
  Calls Tryd.prog 61 #[.int .i64 a0] w fun e w' => ∃ v0_ : Value, e = .returned (v0_) ∧ Kd.R k46 46 w' w.heap.size (fun _ => True) v0_ r ∧ Below w.heap.size w w' := by
 have hu46 := Tryd.underlying46; have HB := Aside0.mk (Below.refl w.heap.size w); have H : (if a0 = 6 then (some (([(⟨32, 32⟩ : S46), (⟨160, 160⟩ : S46), (⟨8192, 8202⟩ : S46), (⟨8232, 8233⟩ : S46), (⟨12288, 12288⟩ : S46)] : List (S46)))) else (if a0 = 3 then (some (([(⟨48, 57⟩ : S46), (⟨178, 179⟩ : S46), (⟨185, 185⟩ : S46), (⟨188, 190⟩ : S46), (⟨1632, 1641⟩ : S46), (⟨65296, 65305⟩ : S46)] : List (S46)))) else (if a0 = 2 then (some (([(⟨768, 879⟩ : S46), (⟨1155, 1161⟩ : S46), (⟨8400, 8412⟩ : S46), (⟨12441, 12442⟩ : S46)] : List (S46)))) else (if a0 = 4 then (some (([(⟨33, 35⟩ : S46), (⟨37, 42⟩ : S46), (⟨44, 47⟩ : S46), (⟨58, 59⟩ : S46), (⟨63, 64⟩ : S46), (⟨91, 93⟩ : S46), (⟨95, 95⟩ : S46), (⟨123, 123⟩ : S46), (⟨125, 125⟩ : S46), (⟨161, 161⟩ : S46), (⟨167, 167⟩ : S46), (⟨171, 171⟩ : S46), (⟨182, 183⟩ : S46), (⟨187, 187⟩ : S46), (⟨191, 191⟩ : S46), (⟨903, 903⟩ : S46), (⟨8208, 8231⟩ : S46), (⟨8240, 8259⟩ : S46), (⟨12289, 12291⟩ : S46)] : List (S46)))) else (if a0 = 5 then (some (([(⟨36, 36⟩ : S46), (⟨43, 43⟩ : S46), (⟨60, 62⟩ : S46), (⟨94, 94⟩ : S46), (⟨96, 96⟩ : S46), (⟨124, 124⟩ : S46), (⟨126, 126⟩ : S46), (⟨162, 166⟩ : S46), (⟨168, 169⟩ : S46), (⟨172, 172⟩ : S46), (⟨174, 177⟩ : S46), (⟨180, 180⟩ : S46), (⟨184, 184⟩ : S46), (⟨215, 215⟩ : S46), (⟨247, 247⟩ : S46), (⟨8352, 8384⟩ : S46), (⟨8592, 8959⟩ : S46), (⟨65533, 65533⟩ : S46), (⟨128512, 128591⟩ : S46)] : List (S46)))) else (if a0 = 1 then (some (([(⟨65, 90⟩ : S46), (⟨97, 122⟩ : S46), (⟨170, 170⟩ : S46), (⟨181, 181⟩ : S46), (⟨186, 186⟩ : S46), (⟨192, 214⟩ : S46), (⟨216, 246⟩ : S46), (⟨248, 687⟩ : S46), (⟨902, 902⟩ : S46), (⟨904, 1153⟩ : S46), (⟨1162, 1327⟩ : S46), (⟨4352, 4607⟩ : S46), (⟨7680, 8124⟩ : S46), (⟨8486, 8486⟩ : S46), (⟨8490, 8491⟩ : S46), (⟨12353, 12438⟩ : S46), (⟨12449, 12538⟩ : S46), (⟨19968, 40959⟩ : S46), (⟨44032, 55203⟩ : S46)] : List (S46)))) else (some ([] : List (S46))))))))) = some r := h; clear h; by_cases c2 : a0 = 6
 ·rw [if_pos c2] at H; have c2b0 : (a0 == 6) = true := beq_iff_eq.mpr c2; have c2b1 : (a0 != 6) = false := bne_eq_false_iff_eq.mpr c2; clear c2; obtain ⟨y103, hy103⟩ : ∃ y_ : List (S46), y_ = (([(⟨32, 32⟩ : S46), (⟨160, 160⟩ : S46), (⟨8192, 8202⟩ : S46), (⟨8232, 8233⟩ : S46), (⟨12288, 12288⟩ : S46)] : List (S46))) := ⟨_, rfl⟩; (replace H : (some y103) = some r := by first | (rw [hy103]; with_reducible exact H) | (have H2_ := (Option.bind_some _ _).symm.trans H; rw [hy103]; with_reducible exact H2_) | (have H2_ := (Option.bind_some _ _).symm.trans H; with_reducible exact H2_) | with_reducible exact H | (rw [hy103]; exact H) | exact H); have Ny103 := Aside0.mk hy103; clear hy103; obtain rfl := Option.some.inj H; go_enter Tryd.func61, Tryd.ntmps61; go_wp2_with (first | ((with_reducible refine gate_dst (N := 11) rfl ?_); refine Kd.R_lit k46 _ 46 ?hg (N := 11) ?hd (xs := ([(⟨32, 32⟩ : S46), (⟨160, 160⟩ : S46), (⟨8192, 8202⟩ : S46), (⟨8232, 8233⟩ : S46), (⟨12288, 12288⟩ : S46)] : List (S46))) (inner := [.int .i32 32, .int .i32 32, .int .i32 160, .int .i32 160, .int .i32 8192, .int .i32 8202, .int .i32 8232, .int .i32 8233, .int .i32 12288, .int .i32 12288]) (ok := fun _ => True) (okp := fun _ => True) ?hr ?hp (fun _ hk => hk) trivial (Below.refl _ _) (Nat.le_refl _) (by simp) ?_; (case hd => rfl); (case hg => rfl); (case hr => first | (go_simp; done) | (go_simp; rfl)); (case hp => exact (Reps.c2 (show Kd.M k46 _ _ _ (⟨32, 32⟩ : S46) [.int .i32 32, .int .i32 32] from (k46_mkM _ _ _ (⟨32, 32⟩ : S46) )) (Reps.c2 (show Kd.M k46 _ _ _ (⟨160, 160⟩ : S46) [.int .i32 160, .int .i32 160] from (k46_mkM _ _ _ (⟨160, 160⟩ : S46) )) (Reps.c2 (show Kd.M k46 _ _ _ (⟨8192, 8202⟩ : S46) [.int .i32 8192, .int .i32 8202] from (k46_mkM _ _ _ (⟨8192, 8202⟩ : S46) )) (Reps.c2 (show Kd.M k46 _ _ _ (⟨8232, 8233⟩ : S46) [.int .i32 8232, .int .i32 8233] from (k46_mkM _ _ _ (⟨8232, 8233⟩ : S46) )) (Reps.c2 (show Kd.M k46 _ _ _ (⟨12288, 12288⟩ : S46) [.int .i32 12288, .int .i32 12288] from (k46_mkM _ _ _ (⟨12288, 12288⟩ : S46) )) (Reps.none _ _))))))); intro v104 w3 ho4 hb hg_ hnew_; clear hg_ hnew_; (first | rw [← Ny103.out] at ho4 | (simp only [Int.reduceToNat] at ho4; rw [← Ny103.out] at ho4)); have n0_ := Aside0.mk (Kd.R_lower ho4 (below_size (by repeat (first | (with_reducible first | exact HB.out | apply below_alloc | apply pw_below_drewN | apply below_drew1) | exact HB.out)))); have n1_ := Aside0.mk (below_step (by repeat (first | (with_reducible first | exact HB.out | apply below_alloc | apply pw_below_drewN | apply below_drew1) | exact HB.out)) hb); clear HB; have HO105 := n0_; have HB := n1_; clear n0_ n1_; clear hb ho4)); go_ret; exact ⟨_, by first | rfl | (simp [errW_none, errW_some] <;> rfl) | (simp [*, errW_none, errW_some] <;> rfl), by (with_reducible repeat (first | apply Kd.R_alloc | apply Kd.R_drewN | apply Kd.R_drew)); exact HO105.out, by repeat (first | (with_reducible first | exact HB.out | apply below_alloc | apply pw_below_drewN | apply below_drew1) | exact HB.out)⟩
 ·rw [if_neg c2] at H; have c2b0 : (a0 == 6) = false := beq_eq_false_iff_ne.mpr c2; have c2b1 : (a0 != 6) = true := bne_iff_ne.mpr c2; by_cases c5 : a0 = 3
  ·rw [if_pos c5] at H; have c5b0 : (a0 == 3) = true := beq_iff_eq.mpr c5; have c5b1 : (a0 != 3) = false := bne_eq_false_iff_eq.mpr c5; clear c5; obtain ⟨y106, hy106⟩ : ∃ y_ : List (S46), y_ = (([(⟨48, 57⟩ : S46), (⟨178, 179⟩ : S46), (⟨185, 185⟩ : S46), (⟨188, 190⟩ : S46), (⟨1632, 1641⟩ : S46), (⟨65296, 65305⟩ : S46)] : List (S46))) := ⟨_, rfl⟩; (replace H : (some y106) = some r := by first | (rw [hy106]; with_reducible exact H) | (have H2_ := (Option.bind_some _ _).symm.trans H; rw [hy106]; with_reducible exact H2_) | (have H2_ := (Option.bind_some _ _).symm.trans H; with_reducible exact H2_) | with_reducible exact H | (rw [hy106]; exact H) | exact H); have Ny106 := Aside0.mk hy106; clear hy106; obtain rfl := Option.some.inj H; go_enter Tryd.func61, Tryd.ntmps61; go_wp2_with (first | ((with_reducible refine gate_dst (N := 20) rfl ?_); refine Kd.R_lit k46 _ 46 ?hg (N := 20) ?hd (xs := ([(⟨48, 57⟩ : S46), (⟨178, 179⟩ : S46), (⟨185, 185⟩ : S46), (⟨188, 190⟩ : S46), (⟨1632, 1641⟩ : S46), (⟨65296, 65305⟩ : S46)] : List (S46))) (inner := [.int .i32 48, .int .i32 57, .int .i32 178, .int .i32 179, .int .i32 185, .int .i32 185, .int .i32 188, .int .i32 190, .int .i32 1632, .int .i32 1641, .int .i32 65296, .int .i32 65305]) (ok := fun _ => True) (okp := fun _ => True) ?hr ?hp (fun _ hk => hk) trivial (Below.refl _ _) (Nat.le_refl _) (by simp) ?_; (case hd => rfl); (case hg => rfl); (case hr => first | (go_simp; done) | (go_simp; rfl)); (case hp => exact (Reps.c2 (show Kd.M k46 _ _ _ (⟨48, 57⟩ : S46) [.int .i32 48, .int .i32 57] from (k46_mkM _ _ _ (⟨48, 57⟩ : S46) )) (Reps.c2 (show Kd.M k46 _ _ _ (⟨178, 179⟩ : S46) [.int .i32 178, .int .i32 179] from (k46_mkM _ _ _ (⟨178, 179⟩ : S46) )) (Reps.c2 (show Kd.M k46 _ _ _ (⟨185, 185⟩ : S46) [.int .i32 185, .int .i32 185] from (k46_mkM _ _ _ (⟨185, 185⟩ : S46) )) (Reps.c2 (show Kd.M k46 _ _ _ (⟨188, 190⟩ : S46) [.int .i32 188, .int .i32 190] from (k46_mkM _ _ _ (⟨188, 190⟩ : S46) )) (Reps.c2 (show Kd.M k46 _ _ _ (⟨1632, 1641⟩ : S46) [.int .i32 1632, .int .i32 1641] from (k46_mkM _ _ _ (⟨1632, 1641⟩ : S46) )) (Reps.c2 (show Kd.M k46 _ _ _ (⟨65296, 65305⟩ : S46) [.int .i32 65296, .int .i32 65305] from (k46_mkM _ _ _ (⟨65296, 65305⟩ : S46) )) (Reps.none _ _)))))))); intro v107 w6 ho7 hb hg_ hnew_; clear hg_ hnew_; (first | rw [← Ny106.out] at ho7 | (simp only [Int.reduceToNat] at ho7; rw [← Ny106.out] at ho7)); have n0_ := Aside0.mk (Kd.R_lower ho7 (below_size (by repeat (first | (with_reducible first | exact HB.out | apply below_alloc | apply pw_below_drewN | apply below_drew1) | exact HB.out)))); have n1_ := Aside0.mk (below_step (by repeat (first | (with_reducible first | exact HB.out | apply below_alloc | apply pw_below_drewN | apply below_drew1) | exact HB.out)) hb); clear HB; have HO108 := n0_; have HB := n1_; clear n0_ n1_; clear hb ho7)); go_ret; exact ⟨_, by first | rfl | (simp [errW_none, errW_some] <;> rfl) | (simp [*, errW_none, errW_some] <;> rfl), by (with_reducible repeat (first | apply Kd.R_alloc | apply Kd.R_drewN | apply Kd.R_drew)); exact HO108.out, by repeat (first | (with_reducible first | exact HB.out | apply below_alloc | apply pw_below_drewN | apply below_drew1) | exact HB.out)⟩
  ·rw [if_neg c5] at H; have c5b0 : (a0 == 3) = false := beq_eq_false_iff_ne.mpr c5; have c5b1 : (a0 != 3) = true := bne_iff_ne.mpr c5; by_cases c8 : a0 = 2
   ·rw [if_pos c8] at H; have c8b0 : (a0 == 2) = true := beq_iff_eq.mpr c8; have c8b1 : (a0 != 2) = false := bne_eq_false_iff_eq.mpr c8; clear c8; obtain ⟨y109, hy109⟩ : ∃ y_ : List (S46), y_ = (([(⟨768, 879⟩ : S46), (⟨1155, 1161⟩ : S46), (⟨8400, 8412⟩ : S46), (⟨12441, 12442⟩ : S46)] : List (S46))) := ⟨_, rfl⟩; (replace H : (some y109) = some r := by first | (rw [hy109]; with_reducible exact H) | (have H2_ := (Option.bind_some _ _).symm.trans H; rw [hy109]; with_reducible exact H2_) | (have H2_ := (Option.bind_some _ _).symm.trans H; with_reducible exact H2_) | with_reducible exact H | (rw [hy109]; exact H) | exact H); have Ny109 := Aside0.mk hy109; clear hy109; obtain rfl := Option.some.inj H; go_enter Tryd.func61, Tryd.ntmps61; go_wp2_with (first | ((with_reducible refine gate_dst (N := 27) rfl ?_); refine Kd.R_lit k46 _ 46 ?hg (N := 27) ?hd (xs := ([(⟨768, 879⟩ : S46), (⟨1155, 1161⟩ : S46), (⟨8400, 8412⟩ : S46), (⟨12441, 12442⟩ : S46)] : List (S46))) (inner := [.int .i32 768, .int .i32 879, .int .i32 1155, .int .i32 1161, .int .i32 8400, .int .i32 8412, .int .i32 12441, .int .i32 12442]) (ok := fun _ => True) (okp := fun _ => True) ?hr ?hp (fun _ hk => hk) trivial (Below.refl _ _) (Nat.le_refl _) (by simp) ?_; (case hd => rfl); (case hg => rfl); (case hr => first | (go_simp; done) | (go_simp; rfl)); (case hp => exact (Reps.c2 (show Kd.M k46 _ _ _ (⟨768, 879⟩ : S46) [.int .i32 768, .int .i32 879] from (k46_mkM _ _ _ (⟨768, 879⟩ : S46) )) (Reps.c2 (show Kd.M k46 _ _ _ (⟨1155, 1161⟩ : S46) [.int .i32 1155, .int .i32 1161] from (k46_mkM _ _ _ (⟨1155, 1161⟩ : S46) )) (Reps.c2 (show Kd.M k46 _ _ _ (⟨8400, 8412⟩ : S46) [.int .i32 8400, .int .i32 8412] from (k46_mkM _ _ _ (⟨8400, 8412⟩ : S46) )) (Reps.c2 (show Kd.M k46 _ _ _ (⟨12441, 12442⟩ : S46) [.int .i32 12441, .int .i32 12442] from (k46_mkM _ _ _ (⟨12441, 12442⟩ : S46) )) (Reps.none _ _)))))); intro v110 w9 ho10 hb hg_ hnew_; clear hg_ hnew_; (first | rw [← Ny109.out] at ho10 | (simp only [Int.reduceToNat] at ho10; rw [← Ny109.out] at ho10)); have n0_ := Aside0.mk (Kd.R_lower ho10 (below_size (by repeat (first | (with_reducible first | exact HB.out | apply below_alloc | apply pw_below_drewN | apply below_drew1) | exact HB.out)))); have n1_ := Aside0.mk (below_step (by repeat (first | (with_reducible first | exact HB.out | apply below_alloc | apply pw_below_drewN | apply below_drew1) | exact HB.out)) hb); clear HB; have HO111 := n0_; have HB := n1_; clear n0_ n1_; clear hb ho10)); go_ret; exact ⟨_, by first | rfl | (simp [errW_none, errW_some] <;> rfl) | (simp [*, errW_none, errW_some] <;> rfl), by (with_reducible repeat (first | apply Kd.R_alloc | apply Kd.R_drewN | apply Kd.R_drew)); exact HO111.out, by repeat (first | (with_reducible first | exact HB.out | apply below_alloc | apply pw_below_drewN | apply below_drew1) | exact HB.out)⟩
   ·rw [if_neg c8] at H; have c8b0 : (a0 == 2) = false := beq_eq_false_iff_ne.mpr c8; have c8b1 : (a0 != 2) = true := bne_iff_ne.mpr c8; by_cases c11 : a0 = 4
    ·rw [if_pos c11] at H; have c11b0 : (a0 == 4) = true := beq_iff_eq.mpr c11; have c11b1 : (a0 != 4) = false := bne_eq_false_iff_eq.mpr c11; clear c11; obtain ⟨y112, hy112⟩ : ∃ y_ : List (S46), y_ = (([(⟨33, 35⟩ : S46), (⟨37, 42⟩ : S46), (⟨44, 47⟩ : S46), (⟨58, 59⟩ : S46), (⟨63, 64⟩ : S46), (⟨91, 93⟩ : S46), (⟨95, 95⟩ : S46), (⟨123, 123⟩ : S46), (⟨125, 125⟩ : S46), (⟨161, 161⟩ : S46), (⟨167, 167⟩ : S46), (⟨171, 171⟩ : S46), (⟨182, 183⟩ : S46), (⟨187, 187⟩ : S46), (⟨191, 191⟩ : S46), (⟨903, 903⟩ : S46), (⟨8208, 8231⟩ : S46), (⟨8240, 8259⟩ : S46), (⟨12289, 12291⟩ : S46)] : List (S46))) := ⟨_, rfl⟩; (replace H : (some y112) = some r := by first | (rw [hy112]; with_reducible exact H) | (have H2_ := (Option.bind_some _ _).symm.trans H; rw [hy112]; with_reducible exact H2_) | (have H2_ := (Option.bind_some _ _).symm.trans H; with_reducible exact H2_) | with_reducible exact H | (rw [hy112]; exact H) | exact H); have Ny112 := Aside0.mk hy112; clear hy112; obtain rfl := Option.some.inj H; go_enter Tryd.func61, Tryd.ntmps61; go_wp2_with (first | ((with_reducible refine gate_dst (N := 49) rfl ?_); refine Kd.R_lit k46 _ 46 ?hg (N := 49) ?hd (xs := ([(⟨33, 35⟩ : S46), (⟨37, 42⟩ : S46), (⟨44, 47⟩ : S46), (⟨58, 59⟩ : S46), (⟨63, 64⟩ : S46), (⟨91, 93⟩ : S46), (⟨95, 95⟩ : S46), (⟨123, 123⟩ : S46), (⟨125, 125⟩ : S46), (⟨161, 161⟩ : S46), (⟨167, 167⟩ : S46), (⟨171, 171⟩ : S46), (⟨182, 183⟩ : S46), (⟨187, 187⟩ : S46), (⟨191, 191⟩ : S46), (⟨903, 903⟩ : S46), (⟨8208, 8231⟩ : S46), (⟨8240, 8259⟩ : S46), (⟨12289, 12291⟩ : S46)] : List (S46))) (inner := [.int .i32 33, .int .i32 35, .int .i32 37, .int .i32 42, .int .i32 44, .int .i32 47, .int .i32 58, .int .i32 59, .int .i32 63, .int .i32 64, .int .i32 91, .int .i32 93, .int .i32 95, .int .i32 95, .int .i32 123, .int .i32 123, .int .i32 125, .int .i32 125, .int .i32 161, .int .i32 161, .int .i32 167, .int .i32 167, .int .i32 171, .int .i32 171, .int .i32 182, .int .i32 183, .int .i32 187, .int .i32 187, .int .i32 191, .int .i32 191, .int .i32 903, .int .i32 903, .int .i32 8208, .int .i32 8231, .int .i32 8240, .int .i32 8259, .int .i32 12289, .int .i32 12291]) (ok := fun _ => True) (okp := fun _ => True) ?hr ?hp (fun _ hk => hk) trivial (Below.refl _ _) (Nat.le_refl _) (by simp) ?_; (case hd => rfl); (case hg => rfl); (case hr => first | (go_simp; done) | (go_simp; rfl)); (case hp => exact (Reps.c2 (show Kd.M k46 _ _ _ (⟨33, 35⟩ : S46) [.int .i32 33, .int .i32 35] from (k46_mkM _ _ _ (⟨33, 35⟩ : S46) )) (Reps.c2 (show Kd.M k46 _ _ _ (⟨37, 42⟩ : S46) [.int .i32 37, .int .i32 42] from (k46_mkM _ _ _ (⟨37, 42⟩ : S46) )) (Reps.c2 (show Kd.M k46 _ _ _ (⟨44, 47⟩ : S46) [.int .i32 44, .int .i32 47] from (k46_mkM _ _ _ (⟨44, 47⟩ : S46) )) (Reps.c2 (show Kd.M k46 _ _ _ (⟨58, 59⟩ : S46) [.int .i32 58, .int .i32 59] from (k46_mkM _ _ _ (⟨58, 59⟩ : S46) )) (Reps.c2 (show Kd.M k46 _ _ _ (⟨63, 64⟩ : S46) [.int .i32 63, .int .i32 64] from (k46_mkM _ _ _ (⟨63, 64⟩ : S46) )) (Reps.c2 (show Kd.M k46 _ _ _ (⟨91, 93⟩ : S46) [.int .i32 91, .int .i32 93] from (k46_mkM _ _ _ (⟨91, 93⟩ : S46) )) (Reps.c2 (show Kd.M k46 _ _ _ (⟨95, 95⟩ : S46) [.int .i32 95, .int .i32 95] from (k46_mkM _ _ _ (⟨95, 95⟩ : S46) )) (Reps.c2 (show Kd.M k46 _ _ _ (⟨123, 123⟩ : S46) [.int .i32 123, .int .i32 123] from (k46_mkM _ _ _ (⟨123, 123⟩ : S46) )) (Reps.c2 (show Kd.M k46 _ _ _ (⟨125, 125⟩ : S46) [.int .i32 125, .int .i32 125] from (k46_mkM _ _ _ (⟨125, 125⟩ : S46) )) (Reps.c2 (show Kd.M k46 _ _ _ (⟨161, 161⟩ : S46) [.int .i32 161, .int .i32 161] from (k46_mkM _ _ _ (⟨161, 161⟩ : S46) )) (Reps.c2 (show Kd.M k46 _ _ _ (⟨167, 167⟩ : S46) [.int .i32 167, .int .i32 167] from (k46_mkM _ _ _ (⟨167, 167⟩ : S46) )) (Reps.c2 (show Kd.M k46 _ _ _ (⟨171, 171⟩ : S46) [.int .i32 171, .int .i32 171] from (k46_mkM _ _ _ (⟨171, 171⟩ : S46) )) (Reps.c2 (show Kd.M k46 _ _ _ (⟨182, 183⟩ : S46) [.int .i32 182, .int .i32 183] from (k46_mkM _ _ _ (⟨182, 183⟩ : S46) )) (Reps.c2 (show Kd.M k46 _ _ _ (⟨187, 187⟩ : S46) [.int .i32 187, .int .i32 187] from (k46_mkM _ _ _ (⟨187, 187⟩ : S46) )) (Reps.c2 (show Kd.M k46 _ _ _ (⟨191, 191⟩ : S46) [.int .i32 191, .int .i32 191] from (k46_mkM _ _ _ (⟨191, 191⟩ : S46) )) (Reps.c2 (show Kd.M k46 _ _ _ (⟨903, 903⟩ : S46) [.int .i32 903, .int .i32 903] from (k46_mkM _ _ _ (⟨903, 903⟩ : S46) )) (Reps.c2 (show Kd.M k46 _ _ _ (⟨8208, 8231⟩ : S46) [.int .i32 8208, .int .i32 8231] from (k46_mkM _ _ _ (⟨8208, 8231⟩ : S46) )) (Reps.c2 (show Kd.M k46 _ _ _ (⟨8240, 8259⟩ : S46) [.int .i32 8240, .int .i32 8259] from (k46_mkM _ _ _ (⟨8240, 8259⟩ : S46) )) (Reps.c2 (show Kd.M k46 _ _ _ (⟨12289, 12291⟩ : S46) [.int .i32 12289, .int .i32 12291] from (k46_mkM _ _ _ (⟨12289, 12291⟩ : S46) )) (Reps.none _ _))))))))))))))))))))); intro v113 w12 ho13 hb hg_ hnew_; clear hg_ hnew_; (first | rw [← Ny112.out] at ho13 | (simp only [Int.reduceToNat] at ho13; rw [← Ny112.out] at ho13)); have n0_ := Aside0.mk (Kd.R_lower ho13 (below_size (by repeat (first | (with_reducible first | exact HB.out | apply below_alloc | apply pw_below_drewN | apply below_drew1) | exact HB.out)))); have n1_ := Aside0.mk (below_step (by repeat (first | (with_reducible first | exact HB.out | apply below_alloc | apply pw_below_drewN | apply below_drew1) | exact HB.out)) hb); clear HB; have HO114 := n0_; have HB := n1_; clear n0_ n1_; clear hb ho13)); go_ret; exact ⟨_, by first | rfl | (simp [errW_none, errW_some] <;> rfl) | (simp [*, errW_none, errW_some] <;> rfl), by (with_reducible repeat (first | apply Kd.R_alloc | apply Kd.R_drewN | apply Kd.R_drew)); exact HO114.out, by repeat (first | (with_reducible first | exact HB.out | apply below_alloc | apply pw_below_drewN | apply below_drew1) | exact HB.out)⟩
    ·rw [if_neg c11] at H; have c11b0 : (a0 == 4) = false := beq_eq_false_iff_ne.mpr c11; have c11b1 : (a0 != 4) = true := bne_iff_ne.mpr c11; by_cases c14 : a0 = 5
     ·rw [if_pos c14] at H; have c14b0 : (a0 == 5) = true := beq_iff_eq.mpr c14; have c14b1 : (a0 != 5) = false := bne_eq_false_iff_eq.mpr c14; clear c14; obtain ⟨y115, hy115⟩ : ∃ y_ : List (S46), y_ = (([(⟨36, 36⟩ : S46), (⟨43, 43⟩ : S46), (⟨60, 62⟩ : S46), (⟨94, 94⟩ : S46), (⟨96, 96⟩ : S46), (⟨124, 124⟩ : S46), (⟨126, 126⟩ : S46), (⟨162, 166⟩ : S46), (⟨168, 169⟩ : S46), (⟨172, 172⟩ : S46), (⟨174, 177⟩ : S46), (⟨180, 180⟩ : S46), (⟨184, 184⟩ : S46), (⟨215, 215⟩ : S46), (⟨247, 247⟩ : S46), (⟨8352, 8384⟩ : S46), (⟨8592, 8959⟩ : S46), (⟨65533, 65533⟩ : S46), (⟨128512, 128591⟩ : S46)] : List (S46))) := ⟨_, rfl⟩; (replace H : (some y115) = some r := by first | (rw [hy115]; with_reducible exact H) | (have H2_ := (Option.bind_some _ _).symm.trans H; rw [hy115]; with_reducible exact H2_) | (have H2_ := (Option.bind_some _ _).symm.trans H; with_reducible exact H2_) | with_reducible exact H | (rw [hy115]; exact H) | exact H); have Ny115 := Aside0.mk hy115; clear hy115; obtain rfl := Option.some.inj H; go_enter Tryd.func61, Tryd.ntmps61; go_wp2_with (first | ((with_reducible refine gate_dst (N := 71) rfl ?_); refine Kd.R_lit k46 _ 46 ?hg (N := 71) ?hd (xs := ([(⟨36, 36⟩ : S46), (⟨43, 43⟩ : S46), (⟨60, 62⟩ : S46), (⟨94, 94⟩ : S46), (⟨96, 96⟩ : S46), (⟨124, 124⟩ : S46), (⟨126, 126⟩ : S46), (⟨162, 166⟩ : S46), (⟨168, 169⟩ : S46), (⟨172, 172⟩ : S46), (⟨174, 177⟩ : S46), (⟨180, 180⟩ : S46), (⟨184, 184⟩ : S46), (⟨215, 215⟩ : S46), (⟨247, 247⟩ : S46), (⟨8352, 8384⟩ : S46), (⟨8592, 8959⟩ : S46), (⟨65533, 65533⟩ : S46), (⟨128512, 128591⟩ : S46)] : List (S46))) (inner := [.int .i32 36, .int .i32 36, .int .i32 43, .int .i32 43, .int .i32 60, .int .i32 62, .int .i32 94, .int .i32 94, .int .i32 96, .int .i32 96, .int .i32 124, .int .i32 124, .int .i32 126, .int .i32 126, .int .i32 162, .int .i32 166, .int .i32 168, .int .i32 169, .int .i32 172, .int .i32 172, .int .i32 174, .int .i32 177, .int .i32 180, .int .i32 180, .int .i32 184, .int .i32 184, .int .i32 215, .int .i32 215, .int .i32 247, .int .i32 247, .int .i32 8352, .int .i32 8384, .int .i32 8592, .int .i32 8959, .int .i32 65533, .int .i32 65533, .int .i32 128512, .int .i32 128591]) (ok := fun _ => True) (okp := fun _ => True) ?hr ?hp (fun _ hk => hk) trivial (Below.refl _ _) (Nat.le_refl _) (by simp) ?_; (case hd => rfl); (case hg => rfl); (case hr => first | (go_simp; done) | (go_simp; rfl)); (case hp => exact (Reps.c2 (show Kd.M k46 _ _ _ (⟨36, 36⟩ : S46) [.int .i32 36, .int .i32 36] from (k46_mkM _ _ _ (⟨36, 36⟩ : S46) )) (Reps.c2 (show Kd.M k46 _ _ _ (⟨43, 43⟩ : S46) [.int .i32 43, .int .i32 43] from (k46_mkM _ _ _ (⟨43, 43⟩ : S46) )) (Reps.c2 (show Kd.M k46 _ _ _ (⟨60, 62⟩ : S46) [.int .i32 60, .int .i32 62] from (k46_mkM _ _ _ (⟨60, 62⟩ : S46) )) (Reps.c2 (show Kd.M k46 _ _ _ (⟨94, 94⟩ : S46) [.int .i32 94, .int .i32 94] from (k46_mkM _ _ _ (⟨94, 94⟩ : S46) )) (Reps.c2 (show Kd.M k46 _ _ _ (⟨96, 96⟩ : S46) [.int .i32 96, .int .i32 96] from (k46_mkM _ _ _ (⟨96, 96⟩ : S46) )) (Reps.c2 (show Kd.M k46 _ _ _ (⟨124, 124⟩ : S46) [.int .i32 124, .int .i32 124] from (k46_mkM _ _ _ (⟨124, 124⟩ : S46) )) (Reps.c2 (show Kd.M k46 _ _ _ (⟨126, 126⟩ : S46) [.int .i32 126, .int .i32 126] from (k46_mkM _ _ _ (⟨126, 126⟩ : S46) )) (Reps.c2 (show Kd.M k46 _ _ _ (⟨162, 166⟩ : S46) [.int .i32 162, .int .i32 166] from (k46_mkM _ _ _ (⟨162, 166⟩ : S46) )) (Reps.c2 (show Kd.M k46 _ _ _ (⟨168, 169⟩ : S46) [.int .i32 168, .int .i32 169] from (k46_mkM _ _ _ (⟨168, 169⟩ : S46) )) (Reps.c2 (show Kd.M k46 _ _ _ (⟨172, 172⟩ : S46) [.int .i32 172, .int .i32 172] from (k46_mkM _ _ _ (⟨172, 172⟩ : S46) )) (Reps.c2 (show Kd.M k46 _ _ _ (⟨174, 177⟩ : S46) [.int .i32 174, .int .i32 177] from (k46_mkM _ _ _ (⟨174, 177⟩ : S46) )) (Reps.c2 (show Kd.M k46 _ _ _ (⟨180, 180⟩ : S46) [.int .i32 180, .int .i32 180] from (k46_mkM _ _ _ (⟨180, 180⟩ : S46) )) (Reps.c2 (show Kd.M k46 _ _ _ (⟨184, 184⟩ : S46) [.int .i32 184, .int .i32 184] from (k46_mkM _ _ _ (⟨184, 184⟩ : S46) )) (Reps.c2 (show Kd.M k46 _ _ _ (⟨215, 215⟩ : S46) [.int .i32 215, .int .i32 215] from (k46_mkM _ _ _ (⟨215, 215⟩ : S46) )) (Reps.c2 (show Kd.M k46 _ _ _ (⟨247, 247⟩ : S46) [.int .i32 247, .int .i32 247] from (k46_mkM _ _ _ (⟨247, 247⟩ : S46) )) (Reps.c2 (show Kd.M k46 _ _ _ (⟨8352, 8384⟩ : S46) [.int .i32 8352, .int .i32 8384] from (k46_mkM _ _ _ (⟨8352, 8384⟩ : S46) )) (Reps.c2 (show Kd.M k46 _ _ _ (⟨8592, 8959⟩ : S46) [.int .i32 8592, .int .i32 8959] from (k46_mkM _ _ _ (⟨8592, 8959⟩ : S46) )) (Reps.c2 (show Kd.M k46 _ _ _ (⟨65533, 65533⟩ : S46) [.int .i32 65533, .int .i32 65533] from (k46_mkM _ _ _ (⟨65533, 65533⟩ : S46) )) (Reps.c2 (show Kd.M k46 _ _ _ (⟨128512, 128591⟩ : S46) [.int .i32 128512, .int .i32 128591] from (k46_mkM _ _ _ (⟨128512, 128591⟩ : S46) )) (Reps.none _ _))))))))))))))))))))); intro v116 w15 ho16 hb hg_ hnew_; clear hg_ hnew_; (first | rw [← Ny115.out] at ho16 | (simp only [Int.reduceToNat] at ho16; rw [← Ny115.out] at ho16)); have n0_ := Aside0.mk (Kd.R_lower ho16 (below_size (by repeat (first | (with_reducible first | exact HB.out | apply below_alloc | apply pw_below_drewN | apply below_drew1) | exact HB.out)))); have n1_ := Aside0.mk (below_step (by repeat (first | (with_reducible first | exact HB.out | apply below_alloc | apply pw_below_drewN | apply below_drew1) | exact HB.out)) hb); clear HB; have HO117 := n0_; have HB := n1_; clear n0_ n1_; clear hb ho16)); go_ret; exact ⟨_, by first | rfl | (simp [errW_none, errW_some] <;> rfl) | (simp [*, errW_none, errW_some] <;> rfl), by (with_reducible repeat (first | apply Kd.R_alloc | apply Kd.R_drewN | apply Kd.R_drew)); exact HO117.out, by repeat (first | (with_reducible first | exact HB.out | apply below_alloc | apply pw_below_drewN | apply below_drew1) | exact HB.out)⟩
     ·rw [if_neg c14] at H; have c14b0 : (a0 == 5) = false := beq_eq_false_iff_ne.mpr c14; have c14b1 : (a0 != 5) = true := bne_iff_ne.mpr c14; by_cases c17 : a0 = 1
      ·rw [if_pos c17] at H; have c17b0 : (a0 == 1) = true := beq_iff_eq.mpr c17; have c17b1 : (a0 != 1) = false := bne_eq_false_iff_eq.mpr c17; clear c17; obtain ⟨y118, hy118⟩ : ∃ y_ : List (S46), y_ = (([(⟨65, 90⟩ : S46), (⟨97, 122⟩ : S46), (⟨170, 170⟩ : S46), (⟨181, 181⟩ : S46), (⟨186, 186⟩ : S46), (⟨192, 214⟩ : S46), (⟨216, 246⟩ : S46), (⟨248, 687⟩ : S46), (⟨902, 902⟩ : S46), (⟨904, 1153⟩ : S46), (⟨1162, 1327⟩ : S46), (⟨4352, 4607⟩ : S46), (⟨7680, 8124⟩ : S46), (⟨8486, 8486⟩ : S46), (⟨8490, 8491⟩ : S46), (⟨12353, 12438⟩ : S46), (⟨12449, 12538⟩ : S46), (⟨19968, 40959⟩ : S46), (⟨44032, 55203⟩ : S46)] : List (S46))) := ⟨_, rfl⟩; (replace H : (some y118) = some r := by first | (rw [hy118]; with_reducible exact H) | (have H2_ := (Option.bind_some _ _).symm.trans H; rw [hy118]; with_reducible exact H2_) | (have H2_ := (Option.bind_some _ _).symm.trans H; with_reducible exact H2_) | with_reducible exact H | (rw [hy118]; exact H) | exact H); have Ny118 := Aside0.mk hy118; clear hy118; obtain rfl := Option.some.inj H; go_enter Tryd.func61, Tryd.ntmps61; go_wp2_with (first | ((with_reducible refine gate_dst (N := 93) rfl ?_); refine Kd.R_lit k46 _ 46 ?hg (N := 93) ?hd (xs := ([(⟨65, 90⟩ : S46), (⟨97, 122⟩ : S46), (⟨170, 170⟩ : S46), (⟨181, 181⟩ : S46), (⟨186, 186⟩ : S46), (⟨192, 214⟩ : S46), (⟨216, 246⟩ : S46), (⟨248, 687⟩ : S46), (⟨902, 902⟩ : S46), (⟨904, 1153⟩ : S46), (⟨1162, 1327⟩ : S46), (⟨4352, 4607⟩ : S46), (⟨7680, 8124⟩ : S46), (⟨8486, 8486⟩ : S46), (⟨8490, 8491⟩ : S46), (⟨12353, 12438⟩ : S46), (⟨12449, 12538⟩ : S46), (⟨19968, 40959⟩ : S46), (⟨44032, 55203⟩ : S46)] : List (S46))) (inner := [.int .i32 65, .int .i32 90, .int .i32 97, .int .i32 122, .int .i32 170, .int .i32 170, .int .i32 181, .int .i32 181, .int .i32 186, .int .i32 186, .int .i32 192, .int .i32 214, .int .i32 216, .int .i32 246, .int .i32 248, .int .i32 687, .int .i32 902, .int .i32 902, .int .i32 904, .int .i32 1153, .int .i32 1162, .int .i32 1327, .int .i32 4352, .int .i32 4607, .int .i32 7680, .int .i32 8124, .int .i32 8486, .int .i32 8486, .int .i32 8490, .int .i32 8491, .int .i32 12353, .int .i32 12438, .int .i32 12449, .int .i32 12538, .int .i32 19968, .int .i32 40959, .int .i32 44032, .int .i32 55203]) (ok := fun _ => True) (okp := fun _ => True) ?hr ?hp (fun _ hk => hk) trivial (Below.refl _ _) (Nat.le_refl _) (by simp) ?_; (case hd => rfl); (case hg => rfl); (case hr => first | (go_simp; done) | (go_simp; rfl)); (case hp => exact (Reps.c2 (show Kd.M k46 _ _ _ (⟨65, 90⟩ : S46) [.int .i32 65, .int .i32 90] from (k46_mkM _ _ _ (⟨65, 90⟩ : S46) )) (Reps.c2 (show Kd.M k46 _ _ _ (⟨97, 122⟩ : S46) [.int .i32 97, .int .i32 122] from (k46_mkM _ _ _ (⟨97, 122⟩ : S46) )) (Reps.c2 (show Kd.M k46 _ _ _ (⟨170, 170⟩ : S46) [.int .i32 170, .int .i32 170] from (k46_mkM _ _ _ (⟨170, 170⟩ : S46) )) (Reps.c2 (show Kd.M k46 _ _ _ (⟨181, 181⟩ : S46) [.int .i32 181, .int .i32 181] from (k46_mkM _ _ _ (⟨181, 181⟩ : S46) )) (Reps.c2 (show Kd.M k46 _ _ _ (⟨186, 186⟩ : S46) [.int .i32 186, .int .i32 186] from (k46_mkM _ _ _ (⟨186, 186⟩ : S46) )) (Reps.c2 (show Kd.M k46 _ _ _ (⟨192, 214⟩ : S46) [.int .i32 192, .int .i32 214] from (k46_mkM _ _ _ (⟨192, 214⟩ : S46) )) (Reps.c2 (show Kd.M k46 _ _ _ (⟨216, 246⟩ : S46) [.int .i32 216, .int .i32 246] from (k46_mkM _ _ _ (⟨216, 246⟩ : S46) )) (Reps.c2 (show Kd.M k46 _ _ _ (⟨248, 687⟩ : S46) [.int .i32 248, .int .i32 687] from (k46_mkM _ _ _ (⟨248, 687⟩ : S46) )) (Reps.c2 (show Kd.M k46 _ _ _ (⟨902, 902⟩ : S46) [.int .i32 902, .int .i32 902] from (k46_mkM _ _ _ (⟨902, 902⟩ : S46) )) (Reps.c2 (show Kd.M k46 _ _ _ (⟨904, 1153⟩ : S46) [.int .i32 904, .int .i32 1153] from (k46_mkM _ _ _ (⟨904, 1153⟩ : S46) )) (Reps.c2 (show Kd.M k46 _ _ _ (⟨1162, 1327⟩ : S46) [.int .i32 1162, .int .i32 1327] from (k46_mkM _ _ _ (⟨1162, 1327⟩ : S46) )) (Reps.c2 (show Kd.M k46 _ _ _ (⟨4352, 4607⟩ : S46) [.int .i32 4352, .int .i32 4607] from (k46_mkM _ _ _ (⟨4352, 4607⟩ : S46) )) (Reps.c2 (show Kd.M k46 _ _ _ (⟨7680, 8124⟩ : S46) [.int .i32 7680, .int .i32 8124] from (k46_mkM _ _ _ (⟨7680, 8124⟩ : S46) )) (Reps.c2 (show Kd.M k46 _ _ _ (⟨8486, 8486⟩ : S46) [.int .i32 8486, .int .i32 8486] from (k46_mkM _ _ _ (⟨8486, 8486⟩ : S46) )) (Reps.c2 (show Kd.M k46 _ _ _ (⟨8490, 8491⟩ : S46) [.int .i32 8490, .int .i32 8491] from (k46_mkM _ _ _ (⟨8490, 8491⟩ : S46) )) (Reps.c2 (show Kd.M k46 _ _ _ (⟨12353, 12438⟩ : S46) [.int .i32 12353, .int .i32 12438] from (k46_mkM _ _ _ (⟨12353, 12438⟩ : S46) )) (Reps.c2 (show Kd.M k46 _ _ _ (⟨12449, 12538⟩ : S46) [.int .i32 12449, .int .i32 12538] from (k46_mkM _ _ _ (⟨12449, 12538⟩ : S46) )) (Reps.c2 (show Kd.M k46 _ _ _ (⟨19968, 40959⟩ : S46) [.int .i32 19968, .int .i32 40959] from (k46_mkM _ _ _ (⟨19968, 40959⟩ : S46) )) (Reps.c2 (show Kd.M k46 _ _ _ (⟨44032, 55203⟩ : S46) [.int .i32 44032, .int .i32 55203] from (k46_mkM _ _ _ (⟨44032, 55203⟩ : S46) )) (Reps.none _ _))))))))))))))))))))); intro v119 w18 ho19 hb hg_ hnew_; clear hg_ hnew_; (first | rw [← Ny118.out] at ho19 | (simp only [Int.reduceToNat] at ho19; rw [← Ny118.out] at ho19)); have n0_ := Aside0.mk (Kd.R_lower ho19 (below_size (by repeat (first | (with_reducible first | exact HB.out | apply below_alloc | apply pw_below_drewN | apply below_drew1) | exact HB.out)))); have n1_ := Aside0.mk (below_step (by repeat (first | (with_reducible first | exact HB.out | apply below_alloc | apply pw_below_drewN | apply below_drew1) | exact HB.out)) hb); clear HB; have HO120 := n0_; have HB := n1_; clear n0_ n1_; clear hb ho19)); go_ret; exact ⟨_, by first | rfl | (simp [errW_none, errW_some] <;> rfl) | (simp [*, errW_none, errW_some] <;> rfl), by (with_reducible repeat (first | apply Kd.R_alloc | apply Kd.R_drewN | apply Kd.R_drew)); exact HO120.out, by repeat (first | (with_reducible first | exact HB.out | apply below_alloc | apply pw_below_drewN | apply below_drew1) | exact HB.out)⟩
      ·rw [if_neg c17] at H; have c17b0 : (a0 == 1) = false := beq_eq_false_iff_ne.mpr c17; have c17b1 : (a0 != 1) = true := bne_iff_ne.mpr c17; obtain rfl := Option.some.inj H; go_enter Tryd.func61, Tryd.ntmps61; go_wp2; go_ret; exact ⟨_, by first | rfl | (simp [errW_none, errW_some] <;> rfl) | (simp [*, errW_none, errW_some] <;> rfl), by first | exact Kd.R_nil _ _ _ _ _ | exact Kd.N_nil _ _ _ _ _ | exact Kd.V_nil _ _ _ _ _ | exact Kd.Q_nil _ _ _ _ _ | exact Kd.S_nil _ _ _ _ _, by repeat (first | (with_reducible first | exact HB.out | apply below_alloc | apply pw_below_drewN | apply below_drew1) | exact HB.out)⟩
end Go.Proofs.YthffpkdadffinaaDoor.X
namespace Go.Proofs.YthffpkdadffinaaDoor.Vb
set_option linter.unusedVariables false
set_option linter.unusedSimpArgs false
open Go.RowKit YthffpkdadffinaaDoorW.PrintWords Hp Va X
def inR (r : Int) (x : S46) : Bool := decide (x.f0 ≤ r) && decide (r ≤ x.f1)
set_option maxRecDepth 100000 in
theorem CloP (w : World) (g : Nat) (r lo hi : Int) (hb : w.heap[g]? = some (.cells #[.int .i32 r] 21 (0, 0))) :
    Calls Tryd.prog 68 #[.agg #[.int .i32 lo, .int .i32 hi], .pointer (some ⟨g, 0, none⟩)] w fun e w' => e = .returned (.bool (decide (lo ≤ r) && decide (r ≤ hi))) ∧ Below w.heap.size w w' := by
  have hu41 := Tryd.underlying46; have hgl := blk_lt hb; have hc0 := blk_cell hb 0; have NB := Aside0.mk (below_alloc (Below.refl w.heap.size w) (.cells #[.int .i32 lo, .int .i32 hi] 46)); clear hb; by_cases h1 : lo ≤ r
  · have d1 : decide (lo ≤ r) = true := decide_eq_true h1; by_cases h2 : r ≤ hi
    · have d2 : decide (r ≤ hi) = true := decide_eq_true h2; go_enter Tryd.func68, Tryd.ntmps68; go_wp2; go_ret; exact ⟨by first | rfl | (rw [d1, d2]; rfl), NB.out⟩
    · have d2 : decide (r ≤ hi) = false := decide_eq_false h2; go_enter Tryd.func68, Tryd.ntmps68; go_wp2; go_ret; exact ⟨by first | rfl | (rw [d1, d2]; rfl), NB.out⟩
  · have d1 : decide (lo ≤ r) = false := decide_eq_false h1; go_enter Tryd.func68, Tryd.ntmps68; go_wp2; go_ret; exact ⟨by first | rfl | (rw [d1]; rfl), NB.out⟩
theorem ranges_at {w : World} {A : Option Addr} {n : Nat} {l : List S46} (h : Kd.C k46 w A n l) (j : Nat) (hj : j < n) : ∃ ad, A = some ad ∧ w.cell? (ad.add (j * 2)) = some (.int .i32 (rd_T46 l j).f0) ∧ w.cell? ⟨(ad.add (j * 2)).block, (ad.add (j * 2)).off + 1, none⟩ = some (.int .i32 (rd_T46 l j).f1) := by
  have := at_T46 h (j : Int) (by omega) (by omega); rw [Int.toNat_natCast] at this; exact this
set_option maxRecDepth 100000 in
set_option maxHeartbeats 1000000 in
theorem IdxP (w : World) (A : Option Addr) (n c : Nat) (l : List S46) (hC : Kd.C k46 w A n l) (hn : n = l.length) (hn5 : n ≤ 1000000) (g : Nat) (r : Int) (hb : w.heap[g]? = some (.cells #[.int .i32 r] 21 (0, 0))) :
    Calls Tryd.prog 89 #[.slice A n c, .func (.func 68) #[] #[.pointer (some ⟨g, 0, none⟩)]] w fun e w' => ∃ z : Int, e = .returned (.int .i64 z) ∧ decide (0 ≤ z) = l.any (inR r) ∧ Below w.heap.size w w' := by
  have hu41 := Tryd.underlying46; have HC := Aside0.mk hC; have HN := Aside0.mk hn; have HB := Aside0.mk hb; clear hC hn hb; go_enter Tryd.func89, Tryd.ntmps89; go_wp2; go_loopw [8] (fun iv wr => ∃ i : Nat, i ≤ n ∧ iv = .int .i64 i ∧ Aside0 (l.any (inR r) = (l.drop i).any (inR r)) ∧ Aside0 (Below w.heap.size w wr)) (fun iv _ => n - (intOf iv).toNat)
  case atStart => exact ⟨0, Nat.zero_le _, rfl, ⟨rfl⟩, ⟨Below.refl _ _⟩⟩
  case round =>
    obtain ⟨i, hi, rfl, HE, HW⟩ := hrel; by_cases hlt : i < n
    · have hd : decide ((i : Int) < (n : Int)) = true := decide_eq_true (by omega); obtain ⟨ad, rfl, x0, x1⟩ := ranges_at HC.out i hlt; have y0 := (HW.out.cell (World.block_lt_of_cell? w _ x0)).trans x0; have y1 := (HW.out.cell (World.block_lt_of_cell? w _ x1)).trans x1
      have hdr : l.drop i = rd_T46 l i :: l.drop (i + 1) := by
        (have h1 : i < l.length := by rw [← HN.out]; exact hlt); rw [List.drop_eq_getElem_cons h1]; unfold rd_T46; simp [List.getElem?_eq_getElem h1]
      have he := HE.out; rw [hdr, List.any_cons] at he; obtain ⟨⟨lo, hi'⟩, hp⟩ : ∃ p, p = rd_T46 l i := ⟨_, rfl⟩; rw [← hp] at y0 y1 he; simp only at y0 y1; clear x0 x1 hdr hp; have hin : inR r ⟨lo, hi'⟩ = (decide (lo ≤ r) && decide (r ≤ hi')) := rfl; rw [hin] at he; have HB2 := Aside0.mk ((HW.out.block g (blk_lt HB.out)).trans HB.out)
      cases hbb : (decide (lo ≤ r) && decide (r ≤ hi')) with
      | true =>
        rw [hbb, Bool.true_or] at he; have HE1 := Aside0.mk he; have HBB := Aside0.mk hbb; clear he hbb hin HE; go_wp2_with (first | (go_at_call 68; go_must (refine (CloP wr g r lo hi' HB2.out).mono ?_; rintro e w3 ⟨rfl, p1⟩; rw [HBB.out]; have B3 := Aside0.mk (below_then HW.out HW.out.size p1); clear p1))); go_ret; exact ⟨_, rfl, by rw [HE1.out]; simp, B3.out⟩
      | false =>
        rw [hbb, Bool.false_or] at he; have HE1 := Aside0.mk he; have HBB := Aside0.mk hbb; clear he hbb hin HE; go_wp2_with (first | (go_at_call 68; go_must (refine (CloP wr g r lo hi' HB2.out).mono ?_; rintro e w3 ⟨rfl, p1⟩; rw [HBB.out]; have B3 := Aside0.mk (below_then HW.out HW.out.size p1); clear p1))); go_roundw
        case rel => exact ⟨i + 1, by omega, by go_num, HE1, B3⟩
        case measure => simp [intOf]; omega
    · have hd : decide ((i : Int) < (n : Int)) = false := decide_eq_false (by omega); (obtain rfl : i = n := by omega); have he := HE.out; rw [HN.out, List.drop_of_length_le (Nat.le_refl _)] at he; have HE1 := Aside0.mk he; clear he; go_wp2; go_ret; exact ⟨-1, rfl, by rw [HE1.out]; rfl, HW.out⟩
set_option maxRecDepth 100000 in
theorem HasP (w : World) (A : Option Addr) (n c : Nat) (l : List S46) (hC : Kd.C k46 w A n l) (hn : n = l.length) (hn5 : n ≤ 1000000) (g : Nat) (r : Int) (hb : w.heap[g]? = some (.cells #[.int .i32 r] 21 (0, 0))) :
    Calls Tryd.prog 67 #[.slice A n c, .func (.func 68) #[] #[.pointer (some ⟨g, 0, none⟩)]] w fun e w' => e = .returned (.bool (l.any (inR r))) ∧ Below w.heap.size w w' := by
  have HC := Aside0.mk hC; have HN := Aside0.mk hn; have HB := Aside0.mk hb; clear hC hn hb; go_enter Tryd.func67, Tryd.ntmps67; go_wp2_with (first | (go_at_call 89; go_must (refine (IdxP w A n c l HC.out HN.out hn5 g r HB.out).mono ?_; rintro e w3 ⟨z, rfl, p1, p2⟩; have P1 := Aside0.mk p1; have B3 := Aside0.mk p2; clear p1 p2))); go_ret; exact ⟨by rw [← P1.out]; rfl, B3.out⟩
def lst (k : Int) : List S46 := (ucd_listed.f k).getD []
theorem lst_some (k : Nat) (h : 1 ≤ k ∧ k ≤ 6) : ucd_listed.f k = some (lst k) := by
  (have : k = 1 ∨ k = 2 ∨ k = 3 ∨ k = 4 ∨ k = 5 ∨ k = 6 := by omega); rcases this with rfl | rfl | rfl | rfl | rfl | rfl <;> rfl
theorem lst_len (k : Nat) (h : 1 ≤ k ∧ k ≤ 6) : (lst k).length ≤ 100 := by
  (have : k = 1 ∨ k = 2 ∨ k = 3 ∨ k = 4 ∨ k = 5 ∨ k = 6 := by omega); rcases this with rfl | rfl | rfl | rfl | rfl | rfl <;> decide
def catF (r : Int) : Nat → Nat → Int
  | 0, _ => 7
  | m + 1, k => if (lst k).any (inR r) = true then k else catF r m (k + 1)
def cat (r : Int) : Int := catF r 6 1
set_option maxRecDepth 100000 in
set_option maxHeartbeats 1000000 in
theorem CatP (w : World) (r : Int) : Calls Tryd.prog 25 #[.int .i32 r] w fun e w' => e = .returned (.int .i64 (cat r)) ∧ Below w.heap.size w w' := by
  have NB := Aside0.mk (below_alloc (Below.refl w.heap.size w) (.cells #[.int .i32 r] 21)); have NK := Aside0.mk (heap_alloc_new w (.cells #[.int .i32 r] 21)); go_enter Tryd.func25, Tryd.ntmps25; go_wp2; go_loopw [3] (fun kv wr => ∃ k : Nat, 1 ≤ k ∧ k ≤ 7 ∧ kv = .int .i64 k ∧ Aside0 (cat r = catF r (7 - k) k) ∧ Aside0 (Below w.heap.size w wr) ∧ Aside0 (wr.heap[w.heap.size]? = some (.cells #[.int .i32 r] 21 (0, 0)))) (fun kv _ => 7 - (intOf kv).toNat)
  case atStart => exact ⟨1, by omega, by omega, rfl, ⟨rfl⟩, NB, NK⟩
  case round =>
    obtain ⟨k, h1, h7, rfl, HE, HW, HK⟩ := hrel; by_cases hlt : k < 7
    · have hd : decide ((k : Int) < 7) = true := decide_eq_true (by omega); have HL := Aside0.mk (lst_some k ⟨h1, by omega⟩); have hll := lst_len k ⟨h1, by omega⟩; obtain ⟨l, hl⟩ : ∃ l, l = lst k := ⟨_, rfl⟩; obtain ⟨q, hq⟩ : ∃ q, q = l.length := ⟨_, rfl⟩; have he := HE.out; rw [show 7 - k = (6 - k) + 1 by omega, catF] at he; rw [← hl] at HL hll he; rw [← hq] at hll; have HQ := Aside0.mk hq; clear hl hq
      cases hb : l.any (inR r) with
      | true =>
        rw [hb, if_pos rfl] at he; have HE1 := Aside0.mk he; have HBB := Aside0.mk hb; clear he hb; go_wp2_with (first | (go_at_call 61; go_must (refine (ucd_listed.calls k l wr HL.out).mono ?_; rintro e w2 ⟨v2, rfl, p1, p2⟩; obtain ⟨A2, c2, rfl, -, p3⟩ := Kd.R_reads p1; rw [← HQ.out] at p3 ⊢; have C2 := Aside0.mk p3; have B2 := Aside0.mk (below_then HW.out HW.out.size p2); have K2 := Aside0.mk ((p2.block _ (blk_lt HK.out)).trans HK.out); clear p1 p2 p3)) | (go_at_call 67; go_must (refine (HasP w2 A2 q c2 l C2.out HQ.out (by omega) w.heap.size r K2.out).mono ?_; rintro e w3 ⟨rfl, p1⟩; rw [HBB.out]; have B3 := Aside0.mk (below_then B2.out B2.out.size p1); clear p1))); go_ret; exact ⟨by rw [HE1.out]; rfl, B3.out⟩
      | false =>
        rw [hb, if_neg (by decide)] at he; have HE1 := Aside0.mk (show cat r = catF r (7 - (k + 1)) (k + 1) by rw [he]; congr 1; omega); have HBB := Aside0.mk hb; clear he hb; go_wp2_with (first | (go_at_call 61; go_must (refine (ucd_listed.calls k l wr HL.out).mono ?_; rintro e w2 ⟨v2, rfl, p1, p2⟩; obtain ⟨A2, c2, rfl, -, p3⟩ := Kd.R_reads p1; rw [← HQ.out] at p3 ⊢; have C2 := Aside0.mk p3; have B2 := Aside0.mk (below_then HW.out HW.out.size p2); have K2 := Aside0.mk ((p2.block _ (blk_lt HK.out)).trans HK.out); clear p1 p2 p3)) | (go_at_call 67; go_must (refine (HasP w2 A2 q c2 l C2.out HQ.out (by omega) w.heap.size r K2.out).mono ?_; rintro e w3 ⟨rfl, p1⟩; rw [HBB.out]; have B3 := Aside0.mk (below_then B2.out B2.out.size p1); have K3 := Aside0.mk ((p1.block _ (blk_lt K2.out)).trans K2.out); clear p1))); go_roundw
        case rel => exact ⟨k + 1, by omega, by omega, by go_num, HE1, B3, K3⟩
        case measure => simp [intOf]; omega
    · have hd : decide ((k : Int) < 7) = false := decide_eq_false (by omega); (obtain rfl : k = 7 := by omega); have HE1 := Aside0.mk (show cat r = 7 from HE.out); go_wp2; go_ret; exact ⟨by rw [HE1.out]; rfl, HW.out⟩
end Go.Proofs.YthffpkdadffinaaDoor.Vb
namespace Go.Proofs.YthffpkdadffinaaDoor.X
set_option linter.unusedVariables false
set_option linter.unusedSimpArgs false
open Go.RowKit YthffpkdadffinaaDoorW.PrintWords
def ucd_Category.f (a0 : Int) : Option Int := some (Vb.cat a0)
theorem ucd_Category.calls (a0 : Int) (r : Int) (w : World) (h : ucd_Category.f a0 = some r) : Calls Tryd.prog 25 #[.int .i32 a0] w fun e w' => e = .returned (.int .i64 r) ∧ Below w.heap.size w w' := by
  obtain rfl := Option.some.inj h; exact Vb.CatP w a0
end Go.Proofs.YthffpkdadffinaaDoor.X
