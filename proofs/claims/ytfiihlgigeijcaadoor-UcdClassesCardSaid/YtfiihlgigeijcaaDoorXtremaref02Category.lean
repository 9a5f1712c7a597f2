-- Written by a program of this session (xprint.py), over the kit's print.
import Derived.Test.YtfiihlgigeijcaaDoorX0
import Derived.Test.YtfiihlgigeijcaaDoorXtremaref02in
namespace Go.Proofs.YtfiihlgigeijcaaDoor.X
open Go.RowKit Go.Proofs.YtfiihlgigeijcaaDoorW.PrintWords Go.Proofs.YtfiihlgigeijcaaDoorW.PrintLast Go.Proofs.YtfiihlgigeijcaaDoorW.PrintMore
attribute [local go_sem] max2_int min2_int max_two min_two max_three min_three max_four min_four   -- for this text's walks alone
set_option linter.unusedVariables false
set_option linter.unusedSimpArgs false

/-! ### tremaref02_Category: function 15 -/
mutual
def tremaref02_Category.j0 : Nat → Int → Bool → Option (Int)
 | 0, _, _ => none
 | k + 1, x0, x3 => if x3 = true then (some 6) else ((tremaref02_in.f x0 48 57).bind fun t198 => (if t198 = true then (tremaref02_Category.j1 k x0 t198) else ((tremaref02_in.f x0 178 179).bind fun t199 => (if t199 = true then (tremaref02_Category.j1 k x0 t199) else ((tremaref02_in.f x0 185 185).bind fun t200 => (if t200 = true then (tremaref02_Category.j1 k x0 t200) else ((tremaref02_in.f x0 188 190).bind fun t201 => (if t201 = true then (tremaref02_Category.j1 k x0 true) else ((tremaref02_in.f x0 1632 1641).bind fun t202 => (if t202 = true then (tremaref02_Category.j1 k x0 t202) else ((tremaref02_in.f x0 65296 65305).bind fun t203 => (tremaref02_Category.j1 k x0 t203))))))))))))
def tremaref02_Category.j1 : Nat → Int → Bool → Option (Int)
 | 0, _, _ => none
 | k + 1, x0, x16 => if x16 = true then (some 3) else ((tremaref02_in.f x0 768 879).bind fun t204 => (if t204 = true then (tremaref02_Category.j2 k x0 t204) else ((tremaref02_in.f x0 1155 1161).bind fun t205 => (if t205 = true then (tremaref02_Category.j2 k x0 t205) else ((tremaref02_in.f x0 8400 8412).bind fun t206 => (if t206 = true then (tremaref02_Category.j2 k x0 t206) else ((tremaref02_in.f x0 12441 12442).bind fun t207 => (tremaref02_Category.j2 k x0 t207))))))))
def tremaref02_Category.j2 : Nat → Int → Bool → Option (Int)
 | 0, _, _ => none
 | k + 1, x0, x31 => if x31 = true then (some 2) else ((tremaref02_in.f x0 33 35).bind fun t208 => (if t208 = true then (tremaref02_Category.j6 k x0 t208) else ((tremaref02_in.f x0 37 42).bind fun t209 => (if t209 = true then (tremaref02_Category.j6 k x0 t209) else ((tremaref02_in.f x0 44 47).bind fun t210 => (if t210 = true then (tremaref02_Category.j6 k x0 t210) else ((tremaref02_in.f x0 58 59).bind fun t211 => (if t211 = true then (tremaref02_Category.j3 k x0 true) else ((tremaref02_in.f x0 63 64).bind fun t212 => (tremaref02_Category.j3 k x0 t212))))))))))
def tremaref02_Category.j6 : Nat → Int → Bool → Option (Int)
 | 0, _, _ => none
 | k + 1, x0, x40 => if x40 = true then (some 4) else ((tremaref02_in.f x0 36 36).bind fun t227 => (if t227 = true then (tremaref02_Category.j10 k x0 t227) else ((tremaref02_in.f x0 43 43).bind fun t228 => (if t228 = true then (tremaref02_Category.j10 k x0 t228) else ((tremaref02_in.f x0 60 62).bind fun t229 => (if t229 = true then (tremaref02_Category.j10 k x0 t229) else ((tremaref02_in.f x0 94 94).bind fun t230 => (if t230 = true then (tremaref02_Category.j7 k x0 true) else ((tremaref02_in.f x0 96 96).bind fun t231 => (tremaref02_Category.j7 k x0 t231))))))))))
def tremaref02_Category.j10 : Nat → Int → Bool → Option (Int)
 | 0, _, _ => none
 | k + 1, x0, x87 => if x87 = true then (some 5) else ((tremaref02_in.f x0 65 90).bind fun t246 => (if t246 = true then (some 1) else ((tremaref02_in.f x0 97 122).bind fun t247 => (if t247 = true then (some 1) else ((tremaref02_in.f x0 170 170).bind fun t248 => (if t248 = true then (some 1) else ((tremaref02_in.f x0 181 181).bind fun t249 => (if t249 = true then (tremaref02_Category.j11 k x0 true) else ((tremaref02_in.f x0 186 186).bind fun t250 => (tremaref02_Category.j11 k x0 t250))))))))))
def tremaref02_Category.j11 : Nat → Int → Bool → Option (Int)
 | 0, _, _ => none
 | k + 1, x0, x134 => if x134 = true then (some 1) else ((tremaref02_in.f x0 192 214).bind fun t251 => (if t251 = true then (some 1) else ((tremaref02_in.f x0 216 246).bind fun t252 => (if t252 = true then (some 1) else ((tremaref02_in.f x0 248 687).bind fun t253 => (if t253 = true then (tremaref02_Category.j12 k x0 true) else ((tremaref02_in.f x0 902 902).bind fun t254 => (tremaref02_Category.j12 k x0 t254))))))))
def tremaref02_Category.j12 : Nat → Int → Bool → Option (Int)
 | 0, _, _ => none
 | k + 1, x0, x134 => if x134 = true then (some 1) else ((tremaref02_in.f x0 904 1023).bind fun t255 => (if t255 = true then (some 1) else ((tremaref02_in.f x0 1024 1153).bind fun t256 => (if t256 = true then (some 1) else ((tremaref02_in.f x0 1162 1327).bind fun t257 => (if t257 = true then (tremaref02_Category.j13 k x0 true) else ((tremaref02_in.f x0 4352 4607).bind fun t258 => (tremaref02_Category.j13 k x0 t258))))))))
def tremaref02_Category.j13 : Nat → Int → Bool → Option (Int)
 | 0, _, _ => none
 | k + 1, x0, x134 => if x134 = true then (some 1) else ((tremaref02_in.f x0 7680 8124).bind fun t259 => (if t259 = true then (some 1) else ((tremaref02_in.f x0 8486 8486).bind fun t260 => (if t260 = true then (some 1) else ((tremaref02_in.f x0 8490 8491).bind fun t261 => (if t261 = true then (some 1) else ((tremaref02_in.f x0 12353 12438).bind fun t262 => (if t262 = true then (some 1) else ((tremaref02_in.f x0 12449 12538).bind fun t263 => (if t263 = true then (some 1) else ((tremaref02_in.f x0 19968 40959).bind fun t264 => (if t264 = true then (some 1) else ((tremaref02_in.f x0 44032 55203).bind fun t265 => (if t265 = true then (some 1) else (some 7)))))))))))))))
def tremaref02_Category.j7 : Nat → Int → Bool → Option (Int)
 | 0, _, _ => none
 | k + 1, x0, x87 => if x87 = true then (tremaref02_Category.j10 k x0 x87) else ((tremaref02_in.f x0 124 124).bind fun t232 => (if t232 = true then (tremaref02_Category.j10 k x0 t232) else ((tremaref02_in.f x0 126 126).bind fun t233 => (if t233 = true then (tremaref02_Category.j10 k x0 t233) else ((tremaref02_in.f x0 162 166).bind fun t234 => (if t234 = true then (tremaref02_Category.j8 k x0 true) else ((tremaref02_in.f x0 168 169).bind fun t235 => (tremaref02_Category.j8 k x0 t235))))))))
def tremaref02_Category.j8 : Nat → Int → Bool → Option (Int)
 | 0, _, _ => none
 | k + 1, x0, x87 => if x87 = true then (tremaref02_Category.j10 k x0 x87) else ((tremaref02_in.f x0 172 172).bind fun t236 => (if t236 = true then (tremaref02_Category.j10 k x0 t236) else ((tremaref02_in.f x0 174 177).bind fun t237 => (if t237 = true then (tremaref02_Category.j10 k x0 t237) else ((tremaref02_in.f x0 180 180).bind fun t238 => (if t238 = true then (tremaref02_Category.j9 k x0 true) else ((tremaref02_in.f x0 184 184).bind fun t239 => (tremaref02_Category.j9 k x0 t239))))))))
def tremaref02_Category.j9 : Nat → Int → Bool → Option (Int)
 | 0, _, _ => none
 | k + 1, x0, x87 => if x87 = true then (tremaref02_Category.j10 k x0 x87) else ((tremaref02_in.f x0 215 215).bind fun t240 => (if t240 = true then (tremaref02_Category.j10 k x0 t240) else ((tremaref02_in.f x0 247 247).bind fun t241 => (if t241 = true then (tremaref02_Category.j10 k x0 t241) else ((tremaref02_in.f x0 8352 8384).bind fun t242 => (if t242 = true then (tremaref02_Category.j10 k x0 true) else ((tremaref02_in.f x0 8592 8959).bind fun t243 => (if t243 = true then (tremaref02_Category.j10 k x0 t243) else ((tremaref02_in.f x0 65533 65533).bind fun t244 => (if t244 = true then (tremaref02_Category.j10 k x0 t244) else ((tremaref02_in.f x0 128512 128591).bind fun t245 => (tremaref02_Category.j10 k x0 t245))))))))))))
def tremaref02_Category.j3 : Nat → Int → Bool → Option (Int)
 | 0, _, _ => none
 | k + 1, x0, x40 => if x40 = true then (tremaref02_Category.j6 k x0 x40) else ((tremaref02_in.f x0 91 93).bind fun t213 => (if t213 = true then (tremaref02_Category.j6 k x0 t213) else ((tremaref02_in.f x0 95 95).bind fun t214 => (if t214 = true then (tremaref02_Category.j6 k x0 t214) else ((tremaref02_in.f x0 123 123).bind fun t215 => (if t215 = true then (tremaref02_Category.j4 k x0 true) else ((tremaref02_in.f x0 125 125).bind fun t216 => (tremaref02_Category.j4 k x0 t216))))))))
def tremaref02_Category.j4 : Nat → Int → Bool → Option (Int)
 | 0, _, _ => none
 | k + 1, x0, x40 => if x40 = true then (tremaref02_Category.j6 k x0 x40) else ((tremaref02_in.f x0 161 161).bind fun t217 => (if t217 = true then (tremaref02_Category.j6 k x0 t217) else ((tremaref02_in.f x0 167 167).bind fun t218 => (if t218 = true then (tremaref02_Category.j6 k x0 t218) else ((tremaref02_in.f x0 171 171).bind fun t219 => (if t219 = true then (tremaref02_Category.j5 k x0 true) else ((tremaref02_in.f x0 182 183).bind fun t220 => (tremaref02_Category.j5 k x0 t220))))))))
def tremaref02_Category.j5 : Nat → Int → Bool → Option (Int)
 | 0, _, _ => none
 | k + 1, x0, x40 => if x40 = true then (tremaref02_Category.j6 k x0 x40) else ((tremaref02_in.f x0 187 187).bind fun t221 => (if t221 = true then (tremaref02_Category.j6 k x0 t221) else ((tremaref02_in.f x0 191 191).bind fun t222 => (if t222 = true then (tremaref02_Category.j6 k x0 t222) else ((tremaref02_in.f x0 903 903).bind fun t223 => (if t223 = true then (tremaref02_Category.j6 k x0 true) else ((tremaref02_in.f x0 8208 8231).bind fun t224 => (if t224 = true then (tremaref02_Category.j6 k x0 t224) else ((tremaref02_in.f x0 8240 8259).bind fun t225 => (if t225 = true then (tremaref02_Category.j6 k x0 t225) else ((tremaref02_in.f x0 12289 12291).bind fun t226 => (tremaref02_Category.j6 k x0 t226))))))))))))
end
def tremaref02_Category.f (k : Nat) (a0 : Int) : Option (Int) := (tremaref02_in.f a0 32 32).bind fun t193 => (if t193 = true then (tremaref02_Category.j0 k a0 t193) else ((tremaref02_in.f a0 160 160).bind fun t194 => (if t194 = true then (tremaref02_Category.j0 k a0 t194) else ((tremaref02_in.f a0 8192 8202).bind fun t195 => (if t195 = true then (tremaref02_Category.j0 k a0 t195) else ((tremaref02_in.f a0 8232 8233).bind fun t196 => (if t196 = true then (tremaref02_Category.j0 k a0 true) else ((tremaref02_in.f a0 12288 12288).bind fun t197 => (tremaref02_Category.j0 k a0 t197)))))))))
theorem tremaref02_Category.mono_l : ∀ k, (∀ y0 y1, LeO (tremaref02_Category.j0 k y0 y1) (tremaref02_Category.j0 (k + 1) y0 y1)) ∧ (∀ y0 y1, LeO (tremaref02_Category.j1 k y0 y1) (tremaref02_Category.j1 (k + 1) y0 y1)) ∧ (∀ y0 y1, LeO (tremaref02_Category.j2 k y0 y1) (tremaref02_Category.j2 (k + 1) y0 y1)) ∧ (∀ y0 y1, LeO (tremaref02_Category.j6 k y0 y1) (tremaref02_Category.j6 (k + 1) y0 y1)) ∧ (∀ y0 y1, LeO (tremaref02_Category.j10 k y0 y1) (tremaref02_Category.j10 (k + 1) y0 y1)) ∧ (∀ y0 y1, LeO (tremaref02_Category.j11 k y0 y1) (tremaref02_Category.j11 (k + 1) y0 y1)) ∧ (∀ y0 y1, LeO (tremaref02_Category.j12 k y0 y1) (tremaref02_Category.j12 (k + 1) y0 y1)) ∧ (∀ y0 y1, LeO (tremaref02_Category.j13 k y0 y1) (tremaref02_Category.j13 (k + 1) y0 y1)) ∧ (∀ y0 y1, LeO (tremaref02_Category.j7 k y0 y1) (tremaref02_Category.j7 (k + 1) y0 y1)) ∧ (∀ y0 y1, LeO (tremaref02_Category.j8 k y0 y1) (tremaref02_Category.j8 (k + 1) y0 y1)) ∧ (∀ y0 y1, LeO (tremaref02_Category.j9 k y0 y1) (tremaref02_Category.j9 (k + 1) y0 y1)) ∧ (∀ y0 y1, LeO (tremaref02_Category.j3 k y0 y1) (tremaref02_Category.j3 (k + 1) y0 y1)) ∧ (∀ y0 y1, LeO (tremaref02_Category.j4 k y0 y1) (tremaref02_Category.j4 (k + 1) y0 y1)) ∧ (∀ y0 y1, LeO (tremaref02_Category.j5 k y0 y1) (tremaref02_Category.j5 (k + 1) y0 y1))
 | 0 => ⟨fun _ _ r h => by simp [tremaref02_Category.j0] at h, fun _ _ r h => by simp [tremaref02_Category.j1] at h, fun _ _ r h => by simp [tremaref02_Category.j2] at h, fun _ _ r h => by simp [tremaref02_Category.j6] at h, fun _ _ r h => by simp [tremaref02_Category.j10] at h, fun _ _ r h => by simp [tremaref02_Category.j11] at h, fun _ _ r h => by simp [tremaref02_Category.j12] at h, fun _ _ r h => by simp [tremaref02_Category.j13] at h, fun _ _ r h => by simp [tremaref02_Category.j7] at h, fun _ _ r h => by simp [tremaref02_Category.j8] at h, fun _ _ r h => by simp [tremaref02_Category.j9] at h, fun _ _ r h => by simp [tremaref02_Category.j3] at h, fun _ _ r h => by simp [tremaref02_Category.j4] at h, fun _ _ r h => by simp [tremaref02_Category.j5] at h⟩
 | k + 1 => by
  obtain ⟨ih0, ih1, ih2, ih3, ih4, ih5, ih6, ih7, ih8, ih9, ih10, ih11, ih12, ih13⟩ := tremaref02_Category.mono_l k
  refine ⟨?_, ?_, ?_, ?_, ?_, ?_, ?_, ?_, ?_, ?_, ?_, ?_, ?_, ?_⟩
  ·intro y0 y1
   unfold tremaref02_Category.j0
   repeat' first
   | (with_reducible exact ih0 _ _)
   | (with_reducible exact ih1 _ _)
   | (with_reducible exact ih2 _ _)
   | (with_reducible exact ih3 _ _)
   | (with_reducible exact ih4 _ _)
   | (with_reducible exact ih5 _ _)
   | (with_reducible exact ih6 _ _)
   | (with_reducible exact ih7 _ _)
   | (with_reducible exact ih8 _ _)
   | (with_reducible exact ih9 _ _)
   | (with_reducible exact ih10 _ _)
   | (with_reducible exact ih11 _ _)
   | (with_reducible exact ih12 _ _)
   | (with_reducible exact ih13 _ _)
   | (with_reducible exact LeO.refl _)
   | (with_reducible exact LeO.none _)
   | (with_reducible refine LeO.ite ?_ ?_)
   | (with_reducible refine LeO.bind ?_ (fun _ => ?_))
   | exact ih0 _ _
   | exact ih1 _ _
   | exact ih2 _ _
   | exact ih3 _ _
   | exact ih4 _ _
   | exact ih5 _ _
   | exact ih6 _ _
   | exact ih7 _ _
   | exact ih8 _ _
   | exact ih9 _ _
   | exact ih10 _ _
   | exact ih11 _ _
   | exact ih12 _ _
   | exact ih13 _ _
   | exact LeO.none _
   | refine LeO.ite ?_ ?_
   | refine LeO.bind ?_ (fun _ => ?_)
  ·intro y0 y1
   unfold tremaref02_Category.j1
   repeat' first
   | (with_reducible exact ih0 _ _)
   | (with_reducible exact ih1 _ _)
   | (with_reducible exact ih2 _ _)
   | (with_reducible exact ih3 _ _)
   | (with_reducible exact ih4 _ _)
   | (with_reducible exact ih5 _ _)
   | (with_reducible exact ih6 _ _)
   | (with_reducible exact ih7 _ _)
   | (with_reducible exact ih8 _ _)
   | (with_reducible exact ih9 _ _)
   | (with_reducible exact ih10 _ _)
   | (with_reducible exact ih11 _ _)
   | (with_reducible exact ih12 _ _)
   | (with_reducible exact ih13 _ _)
   | (with_reducible exact LeO.refl _)
   | (with_reducible exact LeO.none _)
   | (with_reducible refine LeO.ite ?_ ?_)
   | (with_reducible refine LeO.bind ?_ (fun _ => ?_))
   | exact ih0 _ _
   | exact ih1 _ _
   | exact ih2 _ _
   | exact ih3 _ _
   | exact ih4 _ _
   | exact ih5 _ _
   | exact ih6 _ _
   | exact ih7 _ _
   | exact ih8 _ _
   | exact ih9 _ _
   | exact ih10 _ _
   | exact ih11 _ _
   | exact ih12 _ _
   | exact ih13 _ _
   | exact LeO.none _
   | refine LeO.ite ?_ ?_
   | refine LeO.bind ?_ (fun _ => ?_)
  ·intro y0 y1
   unfold tremaref02_Category.j2
   repeat' first
   | (with_reducible exact ih0 _ _)
   | (with_reducible exact ih1 _ _)
   | (with_reducible exact ih2 _ _)
   | (with_reducible exact ih3 _ _)
   | (with_reducible exact ih4 _ _)
   | (with_reducible exact ih5 _ _)
   | (with_reducible exact ih6 _ _)
   | (with_reducible exact ih7 _ _)
   | (with_reducible exact ih8 _ _)
   | (with_reducible exact ih9 _ _)
   | (with_reducible exact ih10 _ _)
   | (with_reducible exact ih11 _ _)
   | (with_reducible exact ih12 _ _)
   | (with_reducible exact ih13 _ _)
   | (with_reducible exact LeO.refl _)
   | (with_reducible exact LeO.none _)
   | (with_reducible refine LeO.ite ?_ ?_)
   | (with_reducible refine LeO.bind ?_ (fun _ => ?_))
   | exact ih0 _ _
   | exact ih1 _ _
   | exact ih2 _ _
   | exact ih3 _ _
   | exact ih4 _ _
   | exact ih5 _ _
   | exact ih6 _ _
   | exact ih7 _ _
   | exact ih8 _ _
   | exact ih9 _ _
   | exact ih10 _ _
   | exact ih11 _ _
   | exact ih12 _ _
   | exact ih13 _ _
   | exact LeO.none _
   | refine LeO.ite ?_ ?_
   | refine LeO.bind ?_ (fun _ => ?_)
  ·intro y0 y1
   unfold tremaref02_Category.j6
   repeat' first
   | (with_reducible exact ih0 _ _)
   | (with_reducible exact ih1 _ _)
   | (with_reducible exact ih2 _ _)
   | (with_reducible exact ih3 _ _)
   | (with_reducible exact ih4 _ _)
   | (with_reducible exact ih5 _ _)
   | (with_reducible exact ih6 _ _)
   | (with_reducible exact ih7 _ _)
   | (with_reducible exact ih8 _ _)
   | (with_reducible exact ih9 _ _)
   | (with_reducible exact ih10 _ _)
   | (with_reducible exact ih11 _ _)
   | (with_reducible exact ih12 _ _)
   | (with_reducible exact ih13 _ _)
   | (with_reducible exact LeO.refl _)
   | (with_reducible exact LeO.none _)
   | (with_reducible refine LeO.ite ?_ ?_)
   | (with_reducible refine LeO.bind ?_ (fun _ => ?_))
   | exact ih0 _ _
   | exact ih1 _ _
   | exact ih2 _ _
   | exact ih3 _ _
   | exact ih4 _ _
   | exact ih5 _ _
   | exact ih6 _ _
   | exact ih7 _ _
   | exact ih8 _ _
   | exact ih9 _ _
   | exact ih10 _ _
   | exact ih11 _ _
   | exact ih12 _ _
   | exact ih13 _ _
   | exact LeO.none _
   | refine LeO.ite ?_ ?_
   | refine LeO.bind ?_ (fun _ => ?_)
  ·intro y0 y1
   unfold tremaref02_Category.j10
   repeat' first
   | (with_reducible exact ih0 _ _)
   | (with_reducible exact ih1 _ _)
   | (with_reducible exact ih2 _ _)
   | (with_reducible exact ih3 _ _)
   | (with_reducible exact ih4 _ _)
   | (with_reducible exact ih5 _ _)
   | (with_reducible exact ih6 _ _)
   | (with_reducible exact ih7 _ _)
   | (with_reducible exact ih8 _ _)
   | (with_reducible exact ih9 _ _)
   | (with_reducible exact ih10 _ _)
   | (with_reducible exact ih11 _ _)
   | (with_reducible exact ih12 _ _)
   | (with_reducible exact ih13 _ _)
   | (with_reducible exact LeO.refl _)
   | (with_reducible exact LeO.none _)
   | (with_reducible refine LeO.ite ?_ ?_)
   | (with_reducible refine LeO.bind ?_ (fun _ => ?_))
   | exact ih0 _ _
   | exact ih1 _ _
   | exact ih2 _ _
   | exact ih3 _ _
   | exact ih4 _ _
   | exact ih5 _ _
   | exact ih6 _ _
   | exact ih7 _ _
   | exact ih8 _ _
   | exact ih9 _ _
   | exact ih10 _ _
   | exact ih11 _ _
   | exact ih12 _ _
   | exact ih13 _ _
   | exact LeO.none _
   | refine LeO.ite ?_ ?_
   | refine LeO.bind ?_ (fun _ => ?_)
  ·intro y0 y1
   unfold tremaref02_Category.j11
   repeat' first
   | (with_reducible exact ih0 _ _)
   | (with_reducible exact ih1 _ _)
   | (with_reducible exact ih2 _ _)
   | (with_reducible exact ih3 _ _)
   | (with_reducible exact ih4 _ _)
   | (with_reducible exact ih5 _ _)
   | (with_reducible exact ih6 _ _)
   | (with_reducible exact ih7 _ _)
   | (with_reducible exact ih8 _ _)
   | (with_reducible exact ih9 _ _)
   | (with_reducible exact ih10 _ _)
   | (with_reducible exact ih11 _ _)
   | (with_reducible exact ih12 _ _)
   | (with_reducible exact ih13 _ _)
   | (with_reducible exact LeO.refl _)
   | (with_reducible exact LeO.none _)
   | (with_reducible refine LeO.ite ?_ ?_)
   | (with_reducible refine LeO.bind ?_ (fun _ => ?_))
   | exact ih0 _ _
   | exact ih1 _ _
   | exact ih2 _ _
   | exact ih3 _ _
   | exact ih4 _ _
   | exact ih5 _ _
   | exact ih6 _ _
   | exact ih7 _ _
   | exact ih8 _ _
   | exact ih9 _ _
   | exact ih10 _ _
   | exact ih11 _ _
   | exact ih12 _ _
   | exact ih13 _ _
   | exact LeO.none _
   | refine LeO.ite ?_ ?_
   | refine LeO.bind ?_ (fun _ => ?_)
  ·intro y0 y1
   unfold tremaref02_Category.j12
   repeat' first
   | (with_reducible exact ih0 _ _)
   | (with_reducible exact ih1 _ _)
   | (with_reducible exact ih2 _ _)
   | (with_reducible exact ih3 _ _)
   | (with_reducible exact ih4 _ _)
   | (with_reducible exact ih5 _ _)
   | (with_reducible exact ih6 _ _)
   | (with_reducible exact ih7 _ _)
   | (with_reducible exact ih8 _ _)
   | (with_reducible exact ih9 _ _)
   | (with_reducible exact ih10 _ _)
   | (with_reducible exact ih11 _ _)
   | (with_reducible exact ih12 _ _)
   | (with_reducible exact ih13 _ _)
   | (with_reducible exact LeO.refl _)
   | (with_reducible exact LeO.none _)
   | (with_reducible refine LeO.ite ?_ ?_)
   | (with_reducible refine LeO.bind ?_ (fun _ => ?_))
   | exact ih0 _ _
   | exact ih1 _ _
   | exact ih2 _ _
   | exact ih3 _ _
   | exact ih4 _ _
   | exact ih5 _ _
   | exact ih6 _ _
   | exact ih7 _ _
   | exact ih8 _ _
   | exact ih9 _ _
   | exact ih10 _ _
   | exact ih11 _ _
   | exact ih12 _ _
   | exact ih13 _ _
   | exact LeO.none _
   | refine LeO.ite ?_ ?_
   | refine LeO.bind ?_ (fun _ => ?_)
  ·intro y0 y1
   unfold tremaref02_Category.j13
   repeat' first
   | (with_reducible exact ih0 _ _)
   | (with_reducible exact ih1 _ _)
   | (with_reducible exact ih2 _ _)
   | (with_reducible exact ih3 _ _)
   | (with_reducible exact ih4 _ _)
   | (with_reducible exact ih5 _ _)
   | (with_reducible exact ih6 _ _)
   | (with_reducible exact ih7 _ _)
   | (with_reducible exact ih8 _ _)
   | (with_reducible exact ih9 _ _)
   | (with_reducible exact ih10 _ _)
   | (with_reducible exact ih11 _ _)
   | (with_reducible exact ih12 _ _)
   | (with_reducible exact ih13 _ _)
   | (with_reducible exact LeO.refl _)
   | (with_reducible exact LeO.none _)
   | (with_reducible refine LeO.ite ?_ ?_)
   | (with_reducible refine LeO.bind ?_ (fun _ => ?_))
   | exact ih0 _ _
   | exact ih1 _ _
   | exact ih2 _ _
   | exact ih3 _ _
   | exact ih4 _ _
   | exact ih5 _ _
   | exact ih6 _ _
   | exact ih7 _ _
   | exact ih8 _ _
   | exact ih9 _ _
   | exact ih10 _ _
   | exact ih11 _ _
   | exact ih12 _ _
   | exact ih13 _ _
   | exact LeO.none _
   | refine LeO.ite ?_ ?_
   | refine LeO.bind ?_ (fun _ => ?_)
  ·intro y0 y1
   unfold tremaref02_Category.j7
   repeat' first
   | (with_reducible exact ih0 _ _)
   | (with_reducible exact ih1 _ _)
   | (with_reducible exact ih2 _ _)
   | (with_reducible exact ih3 _ _)
   | (with_reducible exact ih4 _ _)
   | (with_reducible exact ih5 _ _)
   | (with_reducible exact ih6 _ _)
   | (with_reducible exact ih7 _ _)
   | (with_reducible exact ih8 _ _)
   | (with_reducible exact ih9 _ _)
   | (with_reducible exact ih10 _ _)
   | (with_reducible exact ih11 _ _)
   | (with_reducible exact ih12 _ _)
   | (with_reducible exact ih13 _ _)
   | (with_reducible exact LeO.refl _)
   | (with_reducible exact LeO.none _)
   | (with_reducible refine LeO.ite ?_ ?_)
   | (with_reducible refine LeO.bind ?_ (fun _ => ?_))
   | exact ih0 _ _
   | exact ih1 _ _
   | exact ih2 _ _
   | exact ih3 _ _
   | exact ih4 _ _
   | exact ih5 _ _
   | exact ih6 _ _
   | exact ih7 _ _
   | exact ih8 _ _
   | exact ih9 _ _
   | exact ih10 _ _
   | exact ih11 _ _
   | exact ih12 _ _
   | exact ih13 _ _
   | exact LeO.none _
   | refine LeO.ite ?_ ?_
   | refine LeO.bind ?_ (fun _ => ?_)
  ·intro y0 y1
   unfold tremaref02_Category.j8
   repeat' first
   | (with_reducible exact ih0 _ _)
   | (with_reducible exact ih1 _ _)
   | (with_reducible exact ih2 _ _)
   | (with_reducible exact ih3 _ _)
   | (with_reducible exact ih4 _ _)
   | (with_reducible exact ih5 _ _)
   | (with_reducible exact ih6 _ _)
   | (with_reducible exact ih7 _ _)
   | (with_reducible exact ih8 _ _)
   | (with_reducible exact ih9 _ _)
   | (with_reducible exact ih10 _ _)
   | (with_reducible exact ih11 _ _)
   | (with_reducible exact ih12 _ _)
   | (with_reducible exact ih13 _ _)
   | (with_reducible exact LeO.refl _)
   | (with_reducible exact LeO.none _)
   | (with_reducible refine LeO.ite ?_ ?_)
   | (with_reducible refine LeO.bind ?_ (fun _ => ?_))
   | exact ih0 _ _
   | exact ih1 _ _
   | exact ih2 _ _
   | exact ih3 _ _
   | exact ih4 _ _
   | exact ih5 _ _
   | exact ih6 _ _
   | exact ih7 _ _
   | exact ih8 _ _
   | exact ih9 _ _
   | exact ih10 _ _
   | exact ih11 _ _
   | exact ih12 _ _
   | exact ih13 _ _
   | exact LeO.none _
   | refine LeO.ite ?_ ?_
   | refine LeO.bind ?_ (fun _ => ?_)
  ·intro y0 y1
   unfold tremaref02_Category.j9
   repeat' first
   | (with_reducible exact ih0 _ _)
   | (with_reducible exact ih1 _ _)
   | (with_reducible exact ih2 _ _)
   | (with_reducible exact ih3 _ _)
   | (with_reducible exact ih4 _ _)
   | (with_reducible exact ih5 _ _)
   | (with_reducible exact ih6 _ _)
   | (with_reducible exact ih7 _ _)
   | (with_reducible exact ih8 _ _)
   | (with_reducible exact ih9 _ _)
   | (with_reducible exact ih10 _ _)
   | (with_reducible exact ih11 _ _)
   | (with_reducible exact ih12 _ _)
   | (with_reducible exact ih13 _ _)
   | (with_reducible exact LeO.refl _)
   | (with_reducible exact LeO.none _)
   | (with_reducible refine LeO.ite ?_ ?_)
   | (with_reducible refine LeO.bind ?_ (fun _ => ?_))
   | exact ih0 _ _
   | exact ih1 _ _
   | exact ih2 _ _
   | exact ih3 _ _
   | exact ih4 _ _
   | exact ih5 _ _
   | exact ih6 _ _
   | exact ih7 _ _
   | exact ih8 _ _
   | exact ih9 _ _
   | exact ih10 _ _
   | exact ih11 _ _
   | exact ih12 _ _
   | exact ih13 _ _
   | exact LeO.none _
   | refine LeO.ite ?_ ?_
   | refine LeO.bind ?_ (fun _ => ?_)
  ·intro y0 y1
   unfold tremaref02_Category.j3
   repeat' first
   | (with_reducible exact ih0 _ _)
   | (with_reducible exact ih1 _ _)
   | (with_reducible exact ih2 _ _)
   | (with_reducible exact ih3 _ _)
   | (with_reducible exact ih4 _ _)
   | (with_reducible exact ih5 _ _)
   | (with_reducible exact ih6 _ _)
   | (with_reducible exact ih7 _ _)
   | (with_reducible exact ih8 _ _)
   | (with_reducible exact ih9 _ _)
   | (with_reducible exact ih10 _ _)
   | (with_reducible exact ih11 _ _)
   | (with_reducible exact ih12 _ _)
   | (with_reducible exact ih13 _ _)
   | (with_reducible exact LeO.refl _)
   | (with_reducible exact LeO.none _)
   | (with_reducible refine LeO.ite ?_ ?_)
   | (with_reducible refine LeO.bind ?_ (fun _ => ?_))
   | exact ih0 _ _
   | exact ih1 _ _
   | exact ih2 _ _
   | exact ih3 _ _
   | exact ih4 _ _
   | exact ih5 _ _
   | exact ih6 _ _
   | exact ih7 _ _
   | exact ih8 _ _
   | exact ih9 _ _
   | exact ih10 _ _
   | exact ih11 _ _
   | exact ih12 _ _
   | exact ih13 _ _
   | exact LeO.none _
   | refine LeO.ite ?_ ?_
   | refine LeO.bind ?_ (fun _ => ?_)
  ·intro y0 y1
   unfold tremaref02_Category.j4
   repeat' first
   | (with_reducible exact ih0 _ _)
   | (with_reducible exact ih1 _ _)
   | (with_reducible exact ih2 _ _)
   | (with_reducible exact ih3 _ _)
   | (with_reducible exact ih4 _ _)
   | (with_reducible exact ih5 _ _)
   | (with_reducible exact ih6 _ _)
   | (with_reducible exact ih7 _ _)
   | (with_reducible exact ih8 _ _)
   | (with_reducible exact ih9 _ _)
   | (with_reducible exact ih10 _ _)
   | (with_reducible exact ih11 _ _)
   | (with_reducible exact ih12 _ _)
   | (with_reducible exact ih13 _ _)
   | (with_reducible exact LeO.refl _)
   | (with_reducible exact LeO.none _)
   | (with_reducible refine LeO.ite ?_ ?_)
   | (with_reducible refine LeO.bind ?_ (fun _ => ?_))
   | exact ih0 _ _
   | exact ih1 _ _
   | exact ih2 _ _
   | exact ih3 _ _
   | exact ih4 _ _
   | exact ih5 _ _
   | exact ih6 _ _
   | exact ih7 _ _
   | exact ih8 _ _
   | exact ih9 _ _
   | exact ih10 _ _
   | exact ih11 _ _
   | exact ih12 _ _
   | exact ih13 _ _
   | exact LeO.none _
   | refine LeO.ite ?_ ?_
   | refine LeO.bind ?_ (fun _ => ?_)
  ·intro y0 y1
   unfold tremaref02_Category.j5
   repeat' first
   | (with_reducible exact ih0 _ _)
   | (with_reducible exact ih1 _ _)
   | (with_reducible exact ih2 _ _)
   | (with_reducible exact ih3 _ _)
   | (with_reducible exact ih4 _ _)
   | (with_reducible exact ih5 _ _)
   | (with_reducible exact ih6 _ _)
   | (with_reducible exact ih7 _ _)
   | (with_reducible exact ih8 _ _)
   | (with_reducible exact ih9 _ _)
   | (with_reducible exact ih10 _ _)
   | (with_reducible exact ih11 _ _)
   | (with_reducible exact ih12 _ _)
   | (with_reducible exact ih13 _ _)
   | (with_reducible exact LeO.refl _)
   | (with_reducible exact LeO.none _)
   | (with_reducible refine LeO.ite ?_ ?_)
   | (with_reducible refine LeO.bind ?_ (fun _ => ?_))
   | exact ih0 _ _
   | exact ih1 _ _
   | exact ih2 _ _
   | exact ih3 _ _
   | exact ih4 _ _
   | exact ih5 _ _
   | exact ih6 _ _
   | exact ih7 _ _
   | exact ih8 _ _
   | exact ih9 _ _
   | exact ih10 _ _
   | exact ih11 _ _
   | exact ih12 _ _
   | exact ih13 _ _
   | exact LeO.none _
   | refine LeO.ite ?_ ?_
   | refine LeO.bind ?_ (fun _ => ?_)
theorem tremaref02_Category.mono : ∀ a0 k, LeO (tremaref02_Category.f k a0) (tremaref02_Category.f (k + 1) a0) := by
 intro a0 k
 obtain ⟨ih0, ih1, ih2, ih3, ih4, ih5, ih6, ih7, ih8, ih9, ih10, ih11, ih12, ih13⟩ := tremaref02_Category.mono_l k
 unfold tremaref02_Category.f
 repeat' first
   | (with_reducible exact ih0 _ _)
   | (with_reducible exact ih1 _ _)
   | (with_reducible exact ih2 _ _)
   | (with_reducible exact ih3 _ _)
   | (with_reducible exact ih4 _ _)
   | (with_reducible exact ih5 _ _)
   | (with_reducible exact ih6 _ _)
   | (with_reducible exact ih7 _ _)
   | (with_reducible exact ih8 _ _)
   | (with_reducible exact ih9 _ _)
   | (with_reducible exact ih10 _ _)
   | (with_reducible exact ih11 _ _)
   | (with_reducible exact ih12 _ _)
   | (with_reducible exact ih13 _ _)
   | (with_reducible exact LeO.refl _)
   | (with_reducible exact LeO.none _)
   | (with_reducible refine LeO.ite ?_ ?_)
   | (with_reducible refine LeO.bind ?_ (fun _ => ?_))
   | exact ih0 _ _
   | exact ih1 _ _
   | exact ih2 _ _
   | exact ih3 _ _
   | exact ih4 _ _
   | exact ih5 _ _
   | exact ih6 _ _
   | exact ih7 _ _
   | exact ih8 _ _
   | exact ih9 _ _
   | exact ih10 _ _
   | exact ih11 _ _
   | exact ih12 _ _
   | exact ih13 _ _
   | exact LeO.none _
   | refine LeO.ite ?_ ?_
   | refine LeO.bind ?_ (fun _ => ?_)
set_option maxHeartbeats 8000000 in
set_option maxRecDepth 100000 in
theorem tremaref02_Category.calls (k : Nat) (a0 : Int) (r : Int) (w : World) (h : tremaref02_Category.f k a0 = some r) :
  Calls Tryd.prog 15 #[.int .i32 a0] w fun e w' => e = .returned (.int .i64 r) ∧ Drawn0 w w' := by
 have H : ((tremaref02_in.f a0 32 32).bind fun t193 => (if t193 = true then (tremaref02_Category.j0 k a0 t193) else ((tremaref02_in.f a0 160 160).bind fun t194 => (if t194 = true then (tremaref02_Category.j0 k a0 t194) else ((tremaref02_in.f a0 8192 8202).bind fun t195 => (if t195 = true then (tremaref02_Category.j0 k a0 t195) else ((tremaref02_in.f a0 8232 8233).bind fun t196 => (if t196 = true then (tremaref02_Category.j0 k a0 true) else ((tremaref02_in.f a0 12288 12288).bind fun t197 => (tremaref02_Category.j0 k a0 t197)))))))))) = some r := h
 clear h
 replace H := Option.bind_eq_some_iff.mp H
 obtain ⟨t193, A20, H⟩ := H
 replace H : (if t193 = true then (tremaref02_Category.j0 k a0 t193) else ((tremaref02_in.f a0 160 160).bind fun t194 => (if t194 = true then (tremaref02_Category.j0 k a0 t194) else ((tremaref02_in.f a0 8192 8202).bind fun t195 => (if t195 = true then (tremaref02_Category.j0 k a0 t195) else ((tremaref02_in.f a0 8232 8233).bind fun t196 => (if t196 = true then (tremaref02_Category.j0 k a0 true) else ((tremaref02_in.f a0 12288 12288).bind fun t197 => (tremaref02_Category.j0 k a0 t197))))))))) = some r := H
 have A2 := Aside0.mk A20
 clear A20
 have HC3 := Aside0.mk H
 clear H
 go_enter Tryd.func15, Tryd.ntmps15
 go_upto_if 3 with (first | ((with_reducible refine gate_callee (f := 31) rfl ?_); refine goesL_ (some 5) rfl rfl Tryd.func31 (by kernel_rfl) rfl #[.int .i32 a0, .int .i32 32, .int .i32 32] rfl (by (try simp only [List.map_toArray, List.map_cons, List.map_nil]); first | done | rfl) ?_; (with_reducible refine (tremaref02_in.calls a0 32 32 t193 _ A2.out).mono ?_); rintro e w' ⟨rfl, ⟨nd, rfl⟩⟩; refine ⟨_, rfl, ?_⟩))
 (try simp only [Act.put, List.setIfInBounds_toArray, List.set_cons_zero, List.set_cons_succ])
 go_cut [3] (fun v3 wc => ∃ (kq : Nat) (x3_2 : Bool), v3 = .bool x3_2 ∧ Aside0 (tremaref02_Category.j0 kq a0 x3_2 = some r) ∧ Aside0 (kq ≤ k) ∧ Drawn0 w wc)
 case first =>
  have H := HC3.out
  clear HC3
  by_cases c4 : t193 = true
  ·subst c4
   have H1 : (tremaref02_Category.j0 k a0 true) = some r := by rw [if_pos rfl] at H; exact H
   clear H
   have H := H1
   clear H1
   have H' := Aside0.mk H
   clear H
   go_wp2
   go_meet
   case rel => exact ⟨_, (true), (by first | rfl | (simp; done) | (simp [*]; done)), H', ⟨by first | omega | exact Nat.le_refl _⟩, by repeat (first | exact Drawn0.refl _ | apply Drawn0.step)⟩
  ·as_aux_lemma =>
   replace c4 := Bool.eq_false_iff.mpr c4
   subst c4
   have H1 : ((tremaref02_in.f a0 160 160).bind fun t194 => (if t194 = true then (tremaref02_Category.j0 k a0 t194) else ((tremaref02_in.f a0 8192 8202).bind fun t195 => (if t195 = true then (tremaref02_Category.j0 k a0 t195) else ((tremaref02_in.f a0 8232 8233).bind fun t196 => (if t196 = true then (tremaref02_Category.j0 k a0 true) else ((tremaref02_in.f a0 12288 12288).bind fun t197 => (tremaref02_Category.j0 k a0 t197)))))))) = some r := by rw [if_neg (show ¬ (false = true) by decide)] at H; exact H
   clear H
   have H := H1
   clear H1
   replace H := Option.bind_eq_some_iff.mp H
   obtain ⟨t194, A50, H⟩ := H
   replace H : (if t194 = true then (tremaref02_Category.j0 k a0 t194) else ((tremaref02_in.f a0 8192 8202).bind fun t195 => (if t195 = true then (tremaref02_Category.j0 k a0 t195) else ((tremaref02_in.f a0 8232 8233).bind fun t196 => (if t196 = true then (tremaref02_Category.j0 k a0 true) else ((tremaref02_in.f a0 12288 12288).bind fun t197 => (tremaref02_Category.j0 k a0 t197))))))) = some r := H
   have A5 := Aside0.mk A50
   clear A50
   by_cases c6 : t194 = true
   ·subst c6
    have H1 : (tremaref02_Category.j0 k a0 true) = some r := by rw [if_pos rfl] at H; exact H
    clear H
    have H := H1
    clear H1
    have H' := Aside0.mk H
    clear H
    go_wp2_with (first | ((with_reducible refine gate_callee (f := 31) rfl ?_); refine goesL_ (some 7) rfl rfl Tryd.func31 (by kernel_rfl) rfl #[.int .i32 a0, .int .i32 160, .int .i32 160] rfl (by (try simp only [List.map_toArray, List.map_cons, List.map_nil]); first | done | rfl) ?_; (with_reducible refine (tremaref02_in.calls a0 160 160 true _ A5.out).mono ?_); rintro e w' ⟨rfl, ⟨nd, rfl⟩⟩; refine ⟨_, rfl, ?_⟩))
    go_meet
    case rel => exact ⟨_, (true), (by first | rfl | (simp; done) | (simp [*]; done)), H', ⟨by first | omega | exact Nat.le_refl _⟩, by repeat (first | exact Drawn0.refl _ | apply Drawn0.step)⟩
   ·as_aux_lemma =>
    replace c6 := Bool.eq_false_iff.mpr c6
    subst c6
    have H1 : ((tremaref02_in.f a0 8192 8202).bind fun t195 => (if t195 = true then (tremaref02_Category.j0 k a0 t195) else ((tremaref02_in.f a0 8232 8233).bind fun t196 => (if t196 = true then (tremaref02_Category.j0 k a0 true) else ((tremaref02_in.f a0 12288 12288).bind fun t197 => (tremaref02_Category.j0 k a0 t197)))))) = some r := by rw [if_neg (show ¬ (false = true) by decide)] at H; exact H
    clear H
    have H := H1
    clear H1
    replace H := Option.bind_eq_some_iff.mp H
    obtain ⟨t195, A70, H⟩ := H
    replace H : (if t195 = true then (tremaref02_Category.j0 k a0 t195) else ((tremaref02_in.f a0 8232 8233).bind fun t196 => (if t196 = true then (tremaref02_Category.j0 k a0 true) else ((tremaref02_in.f a0 12288 12288).bind fun t197 => (tremaref02_Category.j0 k a0 t197))))) = some r := H
    have A7 := Aside0.mk A70
    clear A70
    by_cases c8 : t195 = true
    ·subst c8
     have H1 : (tremaref02_Category.j0 k a0 true) = some r := by rw [if_pos rfl] at H; exact H
     clear H
     have H := H1
     clear H1
     have H' := Aside0.mk H
     clear H
     go_wp2_with (first | ((with_reducible refine gate_callee (f := 31) rfl ?_); refine goesL_ (some 7) rfl rfl Tryd.func31 (by kernel_rfl) rfl #[.int .i32 a0, .int .i32 160, .int .i32 160] rfl (by (try simp only [List.map_toArray, List.map_cons, List.map_nil]); first | done | rfl) ?_; (with_reducible refine (tremaref02_in.calls a0 160 160 false _ A5.out).mono ?_); rintro e w' ⟨rfl, ⟨nd, rfl⟩⟩; refine ⟨_, rfl, ?_⟩) | ((with_reducible refine gate_callee (f := 31) rfl ?_); refine goesL_ (some 9) rfl rfl Tryd.func31 (by kernel_rfl) rfl #[.int .i32 a0, .int .i32 8192, .int .i32 8202] rfl (by (try simp only [List.map_toArray, List.map_cons, List.map_nil]); first | done | rfl) ?_; (with_reducible refine (tremaref02_in.calls a0 8192 8202 true _ A7.out).mono ?_); rintro e w' ⟨rfl, ⟨nd, rfl⟩⟩; refine ⟨_, rfl, ?_⟩))
     go_meet
     case rel => exact ⟨_, (true), (by first | rfl | (simp; done) | (simp [*]; done)), H', ⟨by first | omega | exact Nat.le_refl _⟩, by repeat (first | exact Drawn0.refl _ | apply Drawn0.step)⟩
    ·as_aux_lemma =>
     replace c8 := Bool.eq_false_iff.mpr c8
     subst c8
     have H1 : ((tremaref02_in.f a0 8232 8233).bind fun t196 => (if t196 = true then (tremaref02_Category.j0 k a0 true) else ((tremaref02_in.f a0 12288 12288).bind fun t197 => (tremaref02_Category.j0 k a0 t197)))) = some r := by rw [if_neg (show ¬ (false = true) by decide)] at H; exact H
     clear H
     have H := H1
     clear H1
     replace H := Option.bind_eq_some_iff.mp H
     obtain ⟨t196, A90, H⟩ := H
     replace H : (if t196 = true then (tremaref02_Category.j0 k a0 true) else ((tremaref02_in.f a0 12288 12288).bind fun t197 => (tremaref02_Category.j0 k a0 t197))) = some r := H
     have A9 := Aside0.mk A90
     clear A90
     by_cases c10 : t196 = true
     ·subst c10
      have H1 : (tremaref02_Category.j0 k a0 true) = some r := by rw [if_pos rfl] at H; exact H
      clear H
      have H := H1
      clear H1
      have H' := Aside0.mk H
      clear H
      go_wp2_with (first | ((with_reducible refine gate_callee (f := 31) rfl ?_); refine goesL_ (some 7) rfl rfl Tryd.func31 (by kernel_rfl) rfl #[.int .i32 a0, .int .i32 160, .int .i32 160] rfl (by (try simp only [List.map_toArray, List.map_cons, List.map_nil]); first | done | rfl) ?_; (with_reducible refine (tremaref02_in.calls a0 160 160 false _ A5.out).mono ?_); rintro e w' ⟨rfl, ⟨nd, rfl⟩⟩; refine ⟨_, rfl, ?_⟩) | ((with_reducible refine gate_callee (f := 31) rfl ?_); refine goesL_ (some 9) rfl rfl Tryd.func31 (by kernel_rfl) rfl #[.int .i32 a0, .int .i32 8192, .int .i32 8202] rfl (by (try simp only [List.map_toArray, List.map_cons, List.map_nil]); first | done | rfl) ?_; (with_reducible refine (tremaref02_in.calls a0 8192 8202 false _ A7.out).mono ?_); rintro e w' ⟨rfl, ⟨nd, rfl⟩⟩; refine ⟨_, rfl, ?_⟩) | ((with_reducible refine gate_callee (f := 31) rfl ?_); refine goesL_ (some 11) rfl rfl Tryd.func31 (by kernel_rfl) rfl #[.int .i32 a0, .int .i32 8232, .int .i32 8233] rfl (by (try simp only [List.map_toArray, List.map_cons, List.map_nil]); first | done | rfl) ?_; (with_reducible refine (tremaref02_in.calls a0 8232 8233 true _ A9.out).mono ?_); rintro e w' ⟨rfl, ⟨nd, rfl⟩⟩; refine ⟨_, rfl, ?_⟩))
      go_meet
      case rel => exact ⟨_, (true), (by first | rfl | (simp; done) | (simp [*]; done)), H', ⟨by first | omega | exact Nat.le_refl _⟩, by repeat (first | exact Drawn0.refl _ | apply Drawn0.step)⟩
     ·as_aux_lemma =>
      replace c10 := Bool.eq_false_iff.mpr c10
      subst c10
      have H1 : ((tremaref02_in.f a0 12288 12288).bind fun t197 => (tremaref02_Category.j0 k a0 t197)) = some r := by rw [if_neg (show ¬ (false = true) by decide)] at H; exact H
      clear H
      have H := H1
      clear H1
      replace H := Option.bind_eq_some_iff.mp H
      obtain ⟨t197, A110, H⟩ := H
      replace H : (tremaref02_Category.j0 k a0 t197) = some r := H
      have A11 := Aside0.mk A110
      clear A110
      have H' := Aside0.mk H
      clear H
      go_wp2_with (first | ((with_reducible refine gate_callee (f := 31) rfl ?_); refine goesL_ (some 7) rfl rfl Tryd.func31 (by kernel_rfl) rfl #[.int .i32 a0, .int .i32 160, .int .i32 160] rfl (by (try simp only [List.map_toArray, List.map_cons, List.map_nil]); first | done | rfl) ?_; (with_reducible refine (tremaref02_in.calls a0 160 160 false _ A5.out).mono ?_); rintro e w' ⟨rfl, ⟨nd, rfl⟩⟩; refine ⟨_, rfl, ?_⟩) | ((with_reducible refine gate_callee (f := 31) rfl ?_); refine goesL_ (some 9) rfl rfl Tryd.func31 (by kernel_rfl) rfl #[.int .i32 a0, .int .i32 8192, .int .i32 8202] rfl (by (try simp only [List.map_toArray, List.map_cons, List.map_nil]); first | done | rfl) ?_; (with_reducible refine (tremaref02_in.calls a0 8192 8202 false _ A7.out).mono ?_); rintro e w' ⟨rfl, ⟨nd, rfl⟩⟩; refine ⟨_, rfl, ?_⟩) | ((with_reducible refine gate_callee (f := 31) rfl ?_); refine goesL_ (some 11) rfl rfl Tryd.func31 (by kernel_rfl) rfl #[.int .i32 a0, .int .i32 8232, .int .i32 8233] rfl (by (try simp only [List.map_toArray, List.map_cons, List.map_nil]); first | done | rfl) ?_; (with_reducible refine (tremaref02_in.calls a0 8232 8233 false _ A9.out).mono ?_); rintro e w' ⟨rfl, ⟨nd, rfl⟩⟩; refine ⟨_, rfl, ?_⟩) | (go_at_call 31; (with_reducible refine (tremaref02_in.calls a0 12288 12288 t197 _ A11.out).mono ?_); rintro e w' ⟨rfl, ⟨nd, rfl⟩⟩))
      go_meet
      case rel => exact ⟨_, (t197), (by first | rfl | (simp; done) | (simp [*]; done)), H', ⟨by first | omega | exact Nat.le_refl _⟩, by repeat (first | exact Drawn0.refl _ | apply Drawn0.step)⟩
 case rest =>
  clear HC3
  try clear c1
  try clear p2
  try clear c3
  try clear c4
  try clear c6
  try clear c8
  try clear c10
  obtain ⟨kq, x3_2, rfl, HA, HJ2, ⟨mc2, rfl⟩⟩ := hcut
  cases kq with
  | zero => exact absurd HA.out (by simp [tremaref02_Category.j0])
  | succ kj2 =>
   have H := HA.out
   clear HA
   simp only [tremaref02_Category.j0] at H
   by_cases c12 : x3_2 = true
   ·subst c12
    have H1 : (some 6) = some r := by rw [if_pos rfl] at H; exact H
    clear H
    have H := H1
    clear H1
    obtain rfl := Option.some.inj H
    go_wp2
    go_ret
    exact ⟨by first | rfl | (simp; done) | (simp [*]; done), by repeat (first | exact Drawn0.refl _ | apply Drawn0.step)⟩
   ·as_aux_lemma =>
    replace c12 := Bool.eq_false_iff.mpr c12
    subst c12
    have H1 : ((tremaref02_in.f a0 48 57).bind fun t198 => (if t198 = true then (tremaref02_Category.j1 kj2 a0 t198) else ((tremaref02_in.f a0 178 179).bind fun t199 => (if t199 = true then (tremaref02_Category.j1 kj2 a0 t199) else ((tremaref02_in.f a0 185 185).bind fun t200 => (if t200 = true then (tremaref02_Category.j1 kj2 a0 t200) else ((tremaref02_in.f a0 188 190).bind fun t201 => (if t201 = true then (tremaref02_Category.j1 kj2 a0 true) else ((tremaref02_in.f a0 1632 1641).bind fun t202 => (if t202 = true then (tremaref02_Category.j1 kj2 a0 t202) else ((tremaref02_in.f a0 65296 65305).bind fun t203 => (tremaref02_Category.j1 kj2 a0 t203)))))))))))) = some r := by rw [if_neg (show ¬ (false = true) by decide)] at H; exact H
    clear H
    have H := H1
    clear H1
    replace H := Option.bind_eq_some_iff.mp H
    obtain ⟨t198, A130, H⟩ := H
    replace H : (if t198 = true then (tremaref02_Category.j1 kj2 a0 t198) else ((tremaref02_in.f a0 178 179).bind fun t199 => (if t199 = true then (tremaref02_Category.j1 kj2 a0 t199) else ((tremaref02_in.f a0 185 185).bind fun t200 => (if t200 = true then (tremaref02_Category.j1 kj2 a0 t200) else ((tremaref02_in.f a0 188 190).bind fun t201 => (if t201 = true then (tremaref02_Category.j1 kj2 a0 true) else ((tremaref02_in.f a0 1632 1641).bind fun t202 => (if t202 = true then (tremaref02_Category.j1 kj2 a0 t202) else ((tremaref02_in.f a0 65296 65305).bind fun t203 => (tremaref02_Category.j1 kj2 a0 t203))))))))))) = some r := H
    have A13 := Aside0.mk A130
    clear A130
    have HC14 := Aside0.mk H
    clear H
    go_upto_if 16 with (first | ((with_reducible refine gate_callee (f := 31) rfl ?_); refine goesL_ (some 18) rfl rfl Tryd.func31 (by kernel_rfl) rfl #[.int .i32 a0, .int .i32 48, .int .i32 57] rfl (by (try simp only [List.map_toArray, List.map_cons, List.map_nil]); first | done | rfl) ?_; (with_reducible refine (tremaref02_in.calls a0 48 57 t198 _ A13.out).mono ?_); rintro e w' ⟨rfl, ⟨nd, rfl⟩⟩; refine ⟨_, rfl, ?_⟩))
    (try simp only [Act.put, List.setIfInBounds_toArray, List.set_cons_zero, List.set_cons_succ])
    go_cut [16] (fun v16 wc => ∃ (kq : Nat) (x16_13 : Bool), v16 = .bool x16_13 ∧ Aside0 (tremaref02_Category.j1 kq a0 x16_13 = some r) ∧ Aside0 (kq ≤ kj2) ∧ Drawn0 w wc)
    case first =>
     have H := HC14.out
     clear HC14
     by_cases c15 : t198 = true
     ·subst c15
      have H1 : (tremaref02_Category.j1 kj2 a0 true) = some r := by rw [if_pos rfl] at H; exact H
      clear H
      have H := H1
      clear H1
      have H' := Aside0.mk H
      clear H
      go_wp2
      go_meet
      case rel => exact ⟨_, (true), (by first | rfl | (simp; done) | (simp [*]; done)), H', ⟨by have := HJ2.out; first | omega | exact Nat.le_refl _⟩, by repeat (first | exact Drawn0.refl _ | apply Drawn0.step)⟩
     ·as_aux_lemma =>
      replace c15 := Bool.eq_false_iff.mpr c15
      subst c15
      have H1 : ((tremaref02_in.f a0 178 179).bind fun t199 => (if t199 = true then (tremaref02_Category.j1 kj2 a0 t199) else ((tremaref02_in.f a0 185 185).bind fun t200 => (if t200 = true then (tremaref02_Category.j1 kj2 a0 t200) else ((tremaref02_in.f a0 188 190).bind fun t201 => (if t201 = true then (tremaref02_Category.j1 kj2 a0 true) else ((tremaref02_in.f a0 1632 1641).bind fun t202 => (if t202 = true then (tremaref02_Category.j1 kj2 a0 t202) else ((tremaref02_in.f a0 65296 65305).bind fun t203 => (tremaref02_Category.j1 kj2 a0 t203)))))))))) = some r := by rw [if_neg (show ¬ (false = true) by decide)] at H; exact H
      clear H
      have H := H1
      clear H1
      replace H := Option.bind_eq_some_iff.mp H
      obtain ⟨t199, A160, H⟩ := H
      replace H : (if t199 = true then (tremaref02_Category.j1 kj2 a0 t199) else ((tremaref02_in.f a0 185 185).bind fun t200 => (if t200 = true then (tremaref02_Category.j1 kj2 a0 t200) else ((tremaref02_in.f a0 188 190).bind fun t201 => (if t201 = true then (tremaref02_Category.j1 kj2 a0 true) else ((tremaref02_in.f a0 1632 1641).bind fun t202 => (if t202 = true then (tremaref02_Category.j1 kj2 a0 t202) else ((tremaref02_in.f a0 65296 65305).bind fun t203 => (tremaref02_Category.j1 kj2 a0 t203))))))))) = some r := H
      have A16 := Aside0.mk A160
      clear A160
      by_cases c17 : t199 = true
      ·subst c17
       have H1 : (tremaref02_Category.j1 kj2 a0 true) = some r := by rw [if_pos rfl] at H; exact H
       clear H
       have H := H1
       clear H1
       have H' := Aside0.mk H
       clear H
       go_wp2_with (first | ((with_reducible refine gate_callee (f := 31) rfl ?_); refine goesL_ (some 20) rfl rfl Tryd.func31 (by kernel_rfl) rfl #[.int .i32 a0, .int .i32 178, .int .i32 179] rfl (by (try simp only [List.map_toArray, List.map_cons, List.map_nil]); first | done | rfl) ?_; (with_reducible refine (tremaref02_in.calls a0 178 179 true _ A16.out).mono ?_); rintro e w' ⟨rfl, ⟨nd, rfl⟩⟩; refine ⟨_, rfl, ?_⟩))
       go_meet
       case rel => exact ⟨_, (true), (by first | rfl | (simp; done) | (simp [*]; done)), H', ⟨by have := HJ2.out; first | omega | exact Nat.le_refl _⟩, by repeat (first | exact Drawn0.refl _ | apply Drawn0.step)⟩
      ·as_aux_lemma =>
       replace c17 := Bool.eq_false_iff.mpr c17
       subst c17
       have H1 : ((tremaref02_in.f a0 185 185).bind fun t200 => (if t200 = true then (tremaref02_Category.j1 kj2 a0 t200) else ((tremaref02_in.f a0 188 190).bind fun t201 => (if t201 = true then (tremaref02_Category.j1 kj2 a0 true) else ((tremaref02_in.f a0 1632 1641).bind fun t202 => (if t202 = true then (tremaref02_Category.j1 kj2 a0 t202) else ((tremaref02_in.f a0 65296 65305).bind fun t203 => (tremaref02_Category.j1 kj2 a0 t203)))))))) = some r := by rw [if_neg (show ¬ (false = true) by decide)] at H; exact H
       clear H
       have H := H1
       clear H1
       replace H := Option.bind_eq_some_iff.mp H
       obtain ⟨t200, A180, H⟩ := H
       replace H : (if t200 = true then (tremaref02_Category.j1 kj2 a0 t200) else ((tremaref02_in.f a0 188 190).bind fun t201 => (if t201 = true then (tremaref02_Category.j1 kj2 a0 true) else ((tremaref02_in.f a0 1632 1641).bind fun t202 => (if t202 = true then (tremaref02_Category.j1 kj2 a0 t202) else ((tremaref02_in.f a0 65296 65305).bind fun t203 => (tremaref02_Category.j1 kj2 a0 t203))))))) = some r := H
       have A18 := Aside0.mk A180
       clear A180
       by_cases c19 : t200 = true
       ·subst c19
        have H1 : (tremaref02_Category.j1 kj2 a0 true) = some r := by rw [if_pos rfl] at H; exact H
        clear H
        have H := H1
        clear H1
        have H' := Aside0.mk H
        clear H
        go_wp2_with (first | ((with_reducible refine gate_callee (f := 31) rfl ?_); refine goesL_ (some 20) rfl rfl Tryd.func31 (by kernel_rfl) rfl #[.int .i32 a0, .int .i32 178, .int .i32 179] rfl (by (try simp only [List.map_toArray, List.map_cons, List.map_nil]); first | done | rfl) ?_; (with_reducible refine (tremaref02_in.calls a0 178 179 false _ A16.out).mono ?_); rintro e w' ⟨rfl, ⟨nd, rfl⟩⟩; refine ⟨_, rfl, ?_⟩) | ((with_reducible refine gate_callee (f := 31) rfl ?_); refine goesL_ (some 22) rfl rfl Tryd.func31 (by kernel_rfl) rfl #[.int .i32 a0, .int .i32 185, .int .i32 185] rfl (by (try simp only [List.map_toArray, List.map_cons, List.map_nil]); first | done | rfl) ?_; (with_reducible refine (tremaref02_in.calls a0 185 185 true _ A18.out).mono ?_); rintro e w' ⟨rfl, ⟨nd, rfl⟩⟩; refine ⟨_, rfl, ?_⟩))
        go_meet
        case rel => exact ⟨_, (true), (by first | rfl | (simp; done) | (simp [*]; done)), H', ⟨by have := HJ2.out; first | omega | exact Nat.le_refl _⟩, by repeat (first | exact Drawn0.refl _ | apply Drawn0.step)⟩
       ·as_aux_lemma =>
        replace c19 := Bool.eq_false_iff.mpr c19
        subst c19
        have H1 : ((tremaref02_in.f a0 188 190).bind fun t201 => (if t201 = true then (tremaref02_Category.j1 kj2 a0 true) else ((tremaref02_in.f a0 1632 1641).bind fun t202 => (if t202 = true then (tremaref02_Category.j1 kj2 a0 t202) else ((tremaref02_in.f a0 65296 65305).bind fun t203 => (tremaref02_Category.j1 kj2 a0 t203)))))) = some r := by rw [if_neg (show ¬ (false = true) by decide)] at H; exact H
        clear H
        have H := H1
        clear H1
        replace H := Option.bind_eq_some_iff.mp H
        obtain ⟨t201, A200, H⟩ := H
        replace H : (if t201 = true then (tremaref02_Category.j1 kj2 a0 true) else ((tremaref02_in.f a0 1632 1641).bind fun t202 => (if t202 = true then (tremaref02_Category.j1 kj2 a0 t202) else ((tremaref02_in.f a0 65296 65305).bind fun t203 => (tremaref02_Category.j1 kj2 a0 t203))))) = some r := H
        have A20 := Aside0.mk A200
        clear A200
        by_cases c21 : t201 = true
        ·subst c21
         have H1 : (tremaref02_Category.j1 kj2 a0 true) = some r := by rw [if_pos rfl] at H; exact H
         clear H
         have H := H1
         clear H1
         have H' := Aside0.mk H
         clear H
         go_wp2_with (first | ((with_reducible refine gate_callee (f := 31) rfl ?_); refine goesL_ (some 20) rfl rfl Tryd.func31 (by kernel_rfl) rfl #[.int .i32 a0, .int .i32 178, .int .i32 179] rfl (by (try simp only [List.map_toArray, List.map_cons, List.map_nil]); first | done | rfl) ?_; (with_reducible refine (tremaref02_in.calls a0 178 179 false _ A16.out).mono ?_); rintro e w' ⟨rfl, ⟨nd, rfl⟩⟩; refine ⟨_, rfl, ?_⟩) | ((with_reducible refine gate_callee (f := 31) rfl ?_); refine goesL_ (some 22) rfl rfl Tryd.func31 (by kernel_rfl) rfl #[.int .i32 a0, .int .i32 185, .int .i32 185] rfl (by (try simp only [List.map_toArray, List.map_cons, List.map_nil]); first | done | rfl) ?_; (with_reducible refine (tremaref02_in.calls a0 185 185 false _ A18.out).mono ?_); rintro e w' ⟨rfl, ⟨nd, rfl⟩⟩; refine ⟨_, rfl, ?_⟩) | ((with_reducible refine gate_callee (f := 31) rfl ?_); refine goesL_ (some 24) rfl rfl Tryd.func31 (by kernel_rfl) rfl #[.int .i32 a0, .int .i32 188, .int .i32 190] rfl (by (try simp only [List.map_toArray, List.map_cons, List.map_nil]); first | done | rfl) ?_; (with_reducible refine (tremaref02_in.calls a0 188 190 true _ A20.out).mono ?_); rintro e w' ⟨rfl, ⟨nd, rfl⟩⟩; refine ⟨_, rfl, ?_⟩))
         go_meet
         case rel => exact ⟨_, (true), (by first | rfl | (simp; done) | (simp [*]; done)), H', ⟨by have := HJ2.out; first | omega | exact Nat.le_refl _⟩, by repeat (first | exact Drawn0.refl _ | apply Drawn0.step)⟩
        ·as_aux_lemma =>
         replace c21 := Bool.eq_false_iff.mpr c21
         subst c21
         have H1 : ((tremaref02_in.f a0 1632 1641).bind fun t202 => (if t202 = true then (tremaref02_Category.j1 kj2 a0 t202) else ((tremaref02_in.f a0 65296 65305).bind fun t203 => (tremaref02_Category.j1 kj2 a0 t203)))) = some r := by rw [if_neg (show ¬ (false = true) by decide)] at H; exact H
         clear H
         have H := H1
         clear H1
         replace H := Option.bind_eq_some_iff.mp H
         obtain ⟨t202, A220, H⟩ := H
         replace H : (if t202 = true then (tremaref02_Category.j1 kj2 a0 t202) else ((tremaref02_in.f a0 65296 65305).bind fun t203 => (tremaref02_Category.j1 kj2 a0 t203))) = some r := H
         have A22 := Aside0.mk A220
         clear A220
         by_cases c23 : t202 = true
         ·subst c23
          have H1 : (tremaref02_Category.j1 kj2 a0 true) = some r := by rw [if_pos rfl] at H; exact H
          clear H
          have H := H1
          clear H1
          have H' := Aside0.mk H
          clear H
          go_wp2_with (first | ((with_reducible refine gate_callee (f := 31) rfl ?_); refine goesL_ (some 20) rfl rfl Tryd.func31 (by kernel_rfl) rfl #[.int .i32 a0, .int .i32 178, .int .i32 179] rfl (by (try simp only [List.map_toArray, List.map_cons, List.map_nil]); first | done | rfl) ?_; (with_reducible refine (tremaref02_in.calls a0 178 179 false _ A16.out).mono ?_); rintro e w' ⟨rfl, ⟨nd, rfl⟩⟩; refine ⟨_, rfl, ?_⟩) | ((with_reducible refine gate_callee (f := 31) rfl ?_); refine goesL_ (some 22) rfl rfl Tryd.func31 (by kernel_rfl) rfl #[.int .i32 a0, .int .i32 185, .int .i32 185] rfl (by (try simp only [List.map_toArray, List.map_cons, List.map_nil]); first | done | rfl) ?_; (with_reducible refine (tremaref02_in.calls a0 185 185 false _ A18.out).mono ?_); rintro e w' ⟨rfl, ⟨nd, rfl⟩⟩; refine ⟨_, rfl, ?_⟩) | ((with_reducible refine gate_callee (f := 31) rfl ?_); refine goesL_ (some 24) rfl rfl Tryd.func31 (by kernel_rfl) rfl #[.int .i32 a0, .int .i32 188, .int .i32 190] rfl (by (try simp only [List.map_toArray, List.map_cons, List.map_nil]); first | done | rfl) ?_; (with_reducible refine (tremaref02_in.calls a0 188 190 false _ A20.out).mono ?_); rintro e w' ⟨rfl, ⟨nd, rfl⟩⟩; refine ⟨_, rfl, ?_⟩) | (go_at_call 31; (with_reducible refine (tremaref02_in.calls a0 1632 1641 true _ A22.out).mono ?_); rintro e w' ⟨rfl, ⟨nd, rfl⟩⟩))
          go_meet
          case rel => exact ⟨_, (true), (by first | rfl | (simp; done) | (simp [*]; done)), H', ⟨by have := HJ2.out; first | omega | exact Nat.le_refl _⟩, by repeat (first | exact Drawn0.refl _ | apply Drawn0.step)⟩
         ·as_aux_lemma =>
          replace c23 := Bool.eq_false_iff.mpr c23
          subst c23
          have H1 : ((tremaref02_in.f a0 65296 65305).bind fun t203 => (tremaref02_Category.j1 kj2 a0 t203)) = some r := by rw [if_neg (show ¬ (false = true) by decide)] at H; exact H
          clear H
          have H := H1
          clear H1
          replace H := Option.bind_eq_some_iff.mp H
          obtain ⟨t203, A240, H⟩ := H
          replace H : (tremaref02_Category.j1 kj2 a0 t203) = some r := H
          have A24 := Aside0.mk A240
          clear A240
          have H' := Aside0.mk H
          clear H
          go_wp2_with (first | ((with_reducible refine gate_callee (f := 31) rfl ?_); refine goesL_ (some 20) rfl rfl Tryd.func31 (by kernel_rfl) rfl #[.int .i32 a0, .int .i32 178, .int .i32 179] rfl (by (try simp only [List.map_toArray, List.map_cons, List.map_nil]); first | done | rfl) ?_; (with_reducible refine (tremaref02_in.calls a0 178 179 false _ A16.out).mono ?_); rintro e w' ⟨rfl, ⟨nd, rfl⟩⟩; refine ⟨_, rfl, ?_⟩) | ((with_reducible refine gate_callee (f := 31) rfl ?_); refine goesL_ (some 22) rfl rfl Tryd.func31 (by kernel_rfl) rfl #[.int .i32 a0, .int .i32 185, .int .i32 185] rfl (by (try simp only [List.map_toArray, List.map_cons, List.map_nil]); first | done | rfl) ?_; (with_reducible refine (tremaref02_in.calls a0 185 185 false _ A18.out).mono ?_); rintro e w' ⟨rfl, ⟨nd, rfl⟩⟩; refine ⟨_, rfl, ?_⟩) | ((with_reducible refine gate_callee (f := 31) rfl ?_); refine goesL_ (some 24) rfl rfl Tryd.func31 (by kernel_rfl) rfl #[.int .i32 a0, .int .i32 188, .int .i32 190] rfl (by (try simp only [List.map_toArray, List.map_cons, List.map_nil]); first | done | rfl) ?_; (with_reducible refine (tremaref02_in.calls a0 188 190 false _ A20.out).mono ?_); rintro e w' ⟨rfl, ⟨nd, rfl⟩⟩; refine ⟨_, rfl, ?_⟩) | (go_at_call 31; (with_reducible refine (tremaref02_in.calls a0 1632 1641 false _ A22.out).mono ?_); rintro e w' ⟨rfl, ⟨nd, rfl⟩⟩) | ((with_reducible refine gate_callee (f := 31) rfl ?_); refine goesL_ (some 30) rfl rfl Tryd.func31 (by kernel_rfl) rfl #[.int .i32 a0, .int .i32 65296, .int .i32 65305] rfl (by (try simp only [List.map_toArray, List.map_cons, List.map_nil]); first | done | rfl) ?_; (with_reducible refine (tremaref02_in.calls a0 65296 65305 t203 _ A24.out).mono ?_); rintro e w' ⟨rfl, ⟨nd, rfl⟩⟩; refine ⟨_, rfl, ?_⟩))
          go_meet
          case rel => exact ⟨_, (t203), (by first | rfl | (simp; done) | (simp [*]; done)), H', ⟨by have := HJ2.out; first | omega | exact Nat.le_refl _⟩, by repeat (first | exact Drawn0.refl _ | apply Drawn0.step)⟩
    case rest =>
     clear HC14
     try clear c1
     try clear c2
     try clear p2
     try clear c3
     try clear c4
     try clear c6
     try clear c8
     try clear c10
     try clear c12
     try clear c15
     try clear c17
     try clear c19
     try clear c21
     try clear c23
     try clear p2
     obtain ⟨kq, x16_13, rfl, HA, HJ13, ⟨mc13, rfl⟩⟩ := hcut
     cases kq with
     | zero => exact absurd HA.out (by simp [tremaref02_Category.j1])
     | succ kj13 =>
      have H := HA.out
      clear HA
      simp only [tremaref02_Category.j1] at H
      by_cases c25 : x16_13 = true
      ·subst c25
       have H1 : (some 3) = some r := by rw [if_pos rfl] at H; exact H
       clear H
       have H := H1
       clear H1
       obtain rfl := Option.some.inj H
       go_wp2
       go_ret
       exact ⟨by first | rfl | (simp; done) | (simp [*]; done), by repeat (first | exact Drawn0.refl _ | apply Drawn0.step)⟩
      ·as_aux_lemma =>
       replace c25 := Bool.eq_false_iff.mpr c25
       subst c25
       have H1 : ((tremaref02_in.f a0 768 879).bind fun t204 => (if t204 = true then (tremaref02_Category.j2 kj13 a0 t204) else ((tremaref02_in.f a0 1155 1161).bind fun t205 => (if t205 = true then (tremaref02_Category.j2 kj13 a0 t205) else ((tremaref02_in.f a0 8400 8412).bind fun t206 => (if t206 = true then (tremaref02_Category.j2 kj13 a0 t206) else ((tremaref02_in.f a0 12441 12442).bind fun t207 => (tremaref02_Category.j2 kj13 a0 t207)))))))) = some r := by rw [if_neg (show ¬ (false = true) by decide)] at H; exact H
       clear H
       have H := H1
       clear H1
       replace H := Option.bind_eq_some_iff.mp H
       obtain ⟨t204, A260, H⟩ := H
       replace H : (if t204 = true then (tremaref02_Category.j2 kj13 a0 t204) else ((tremaref02_in.f a0 1155 1161).bind fun t205 => (if t205 = true then (tremaref02_Category.j2 kj13 a0 t205) else ((tremaref02_in.f a0 8400 8412).bind fun t206 => (if t206 = true then (tremaref02_Category.j2 kj13 a0 t206) else ((tremaref02_in.f a0 12441 12442).bind fun t207 => (tremaref02_Category.j2 kj13 a0 t207))))))) = some r := H
       have A26 := Aside0.mk A260
       clear A260
       have HC27 := Aside0.mk H
       clear H
       go_upto_if 31 with (first | ((with_reducible refine gate_callee (f := 31) rfl ?_); refine goesL_ (some 33) rfl rfl Tryd.func31 (by kernel_rfl) rfl #[.int .i32 a0, .int .i32 768, .int .i32 879] rfl (by (try simp only [List.map_toArray, List.map_cons, List.map_nil]); first | done | rfl) ?_; (with_reducible refine (tremaref02_in.calls a0 768 879 t204 _ A26.out).mono ?_); rintro e w' ⟨rfl, ⟨nd, rfl⟩⟩; refine ⟨_, rfl, ?_⟩))
       (try simp only [Act.put, List.setIfInBounds_toArray, List.set_cons_zero, List.set_cons_succ])
       go_cut [31] (fun v31 wc => ∃ (kq : Nat) (x31_26 : Bool), v31 = .bool x31_26 ∧ Aside0 (tremaref02_Category.j2 kq a0 x31_26 = some r) ∧ Aside0 (kq ≤ kj13) ∧ Drawn0 w wc)
       case first =>
        have H := HC27.out
        clear HC27
        by_cases c28 : t204 = true
        ·subst c28
         have H1 : (tremaref02_Category.j2 kj13 a0 true) = some r := by rw [if_pos rfl] at H; exact H
         clear H
         have H := H1
         clear H1
         have H' := Aside0.mk H
         clear H
         go_wp2
         go_meet
         case rel => exact ⟨_, (true), (by first | rfl | (simp; done) | (simp [*]; done)), H', ⟨by have := HJ2.out; have := HJ13.out; first | omega | exact Nat.le_refl _⟩, by repeat (first | exact Drawn0.refl _ | apply Drawn0.step)⟩
        ·as_aux_lemma =>
         replace c28 := Bool.eq_false_iff.mpr c28
         subst c28
         have H1 : ((tremaref02_in.f a0 1155 1161).bind fun t205 => (if t205 = true then (tremaref02_Category.j2 kj13 a0 t205) else ((tremaref02_in.f a0 8400 8412).bind fun t206 => (if t206 = true then (tremaref02_Category.j2 kj13 a0 t206) else ((tremaref02_in.f a0 12441 12442).bind fun t207 => (tremaref02_Category.j2 kj13 a0 t207)))))) = some r := by rw [if_neg (show ¬ (false = true) by decide)] at H; exact H
         clear H
         have H := H1
         clear H1
         replace H := Option.bind_eq_some_iff.mp H
         obtain ⟨t205, A290, H⟩ := H
         replace H : (if t205 = true then (tremaref02_Category.j2 kj13 a0 t205) else ((tremaref02_in.f a0 8400 8412).bind fun t206 => (if t206 = true then (tremaref02_Category.j2 kj13 a0 t206) else ((tremaref02_in.f a0 12441 12442).bind fun t207 => (tremaref02_Category.j2 kj13 a0 t207))))) = some r := H
         have A29 := Aside0.mk A290
         clear A290
         by_cases c30 : t205 = true
         ·subst c30
          have H1 : (tremaref02_Category.j2 kj13 a0 true) = some r := by rw [if_pos rfl] at H; exact H
          clear H
          have H := H1
          clear H1
          have H' := Aside0.mk H
          clear H
          go_wp2_with (first | ((with_reducible refine gate_callee (f := 31) rfl ?_); refine goesL_ (some 35) rfl rfl Tryd.func31 (by kernel_rfl) rfl #[.int .i32 a0, .int .i32 1155, .int .i32 1161] rfl (by (try simp only [List.map_toArray, List.map_cons, List.map_nil]); first | done | rfl) ?_; (with_reducible refine (tremaref02_in.calls a0 1155 1161 true _ A29.out).mono ?_); rintro e w' ⟨rfl, ⟨nd, rfl⟩⟩; refine ⟨_, rfl, ?_⟩))
          go_meet
          case rel => exact ⟨_, (true), (by first | rfl | (simp; done) | (simp [*]; done)), H', ⟨by have := HJ2.out; have := HJ13.out; first | omega | exact Nat.le_refl _⟩, by repeat (first | exact Drawn0.refl _ | apply Drawn0.step)⟩
         ·as_aux_lemma =>
          replace c30 := Bool.eq_false_iff.mpr c30
          subst c30
          have H1 : ((tremaref02_in.f a0 8400 8412).bind fun t206 => (if t206 = true then (tremaref02_Category.j2 kj13 a0 t206) else ((tremaref02_in.f a0 12441 12442).bind fun t207 => (tremaref02_Category.j2 kj13 a0 t207)))) = some r := by rw [if_neg (show ¬ (false = true) by decide)] at H; exact H
          clear H
          have H := H1
          clear H1
          replace H := Option.bind_eq_some_iff.mp H
          obtain ⟨t206, A310, H⟩ := H
          replace H : (if t206 = true then (tremaref02_Category.j2 kj13 a0 t206) else ((tremaref02_in.f a0 12441 12442).bind fun t207 => (tremaref02_Category.j2 kj13 a0 t207))) = some r := H
          have A31 := Aside0.mk A310
          clear A310
          by_cases c32 : t206 = true
          ·subst c32
           have H1 : (tremaref02_Category.j2 kj13 a0 true) = some r := by rw [if_pos rfl] at H; exact H
           clear H
           have H := H1
           clear H1
           have H' := Aside0.mk H
           clear H
           go_wp2_with (first | ((with_reducible refine gate_callee (f := 31) rfl ?_); refine goesL_ (some 35) rfl rfl Tryd.func31 (by kernel_rfl) rfl #[.int .i32 a0, .int .i32 1155, .int .i32 1161] rfl (by (try simp only [List.map_toArray, List.map_cons, List.map_nil]); first | done | rfl) ?_; (with_reducible refine (tremaref02_in.calls a0 1155 1161 false _ A29.out).mono ?_); rintro e w' ⟨rfl, ⟨nd, rfl⟩⟩; refine ⟨_, rfl, ?_⟩) | ((with_reducible refine gate_callee (f := 31) rfl ?_); refine goesL_ (some 37) rfl rfl Tryd.func31 (by kernel_rfl) rfl #[.int .i32 a0, .int .i32 8400, .int .i32 8412] rfl (by (try simp only [List.map_toArray, List.map_cons, List.map_nil]); first | done | rfl) ?_; (with_reducible refine (tremaref02_in.calls a0 8400 8412 true _ A31.out).mono ?_); rintro e w' ⟨rfl, ⟨nd, rfl⟩⟩; refine ⟨_, rfl, ?_⟩))
           go_meet
           case rel => exact ⟨_, (true), (by first | rfl | (simp; done) | (simp [*]; done)), H', ⟨by have := HJ2.out; have := HJ13.out; first | omega | exact Nat.le_refl _⟩, by repeat (first | exact Drawn0.refl _ | apply Drawn0.step)⟩
          ·as_aux_lemma =>
           replace c32 := Bool.eq_false_iff.mpr c32
           subst c32
           have H1 : ((tremaref02_in.f a0 12441 12442).bind fun t207 => (tremaref02_Category.j2 kj13 a0 t207)) = some r := by rw [if_neg (show ¬ (false = true) by decide)] at H; exact H
           clear H
           have H := H1
           clear H1
           replace H := Option.bind_eq_some_iff.mp H
           obtain ⟨t207, A330, H⟩ := H
           replace H : (tremaref02_Category.j2 kj13 a0 t207) = some r := H
           have A33 := Aside0.mk A330
           clear A330
           have H' := Aside0.mk H
           clear H
           go_wp2_with (first | ((with_reducible refine gate_callee (f := 31) rfl ?_); refine goesL_ (some 35) rfl rfl Tryd.func31 (by kernel_rfl) rfl #[.int .i32 a0, .int .i32 1155, .int .i32 1161] rfl (by (try simp only [List.map_toArray, List.map_cons, List.map_nil]); first | done | rfl) ?_; (with_reducible refine (tremaref02_in.calls a0 1155 1161 false _ A29.out).mono ?_); rintro e w' ⟨rfl, ⟨nd, rfl⟩⟩; refine ⟨_, rfl, ?_⟩) | ((with_reducible refine gate_callee (f := 31) rfl ?_); refine goesL_ (some 37) rfl rfl Tryd.func31 (by kernel_rfl) rfl #[.int .i32 a0, .int .i32 8400, .int .i32 8412] rfl (by (try simp only [List.map_toArray, List.map_cons, List.map_nil]); first | done | rfl) ?_; (with_reducible refine (tremaref02_in.calls a0 8400 8412 false _ A31.out).mono ?_); rintro e w' ⟨rfl, ⟨nd, rfl⟩⟩; refine ⟨_, rfl, ?_⟩) | ((with_reducible refine gate_callee (f := 31) rfl ?_); refine goesL_ (some 39) rfl rfl Tryd.func31 (by kernel_rfl) rfl #[.int .i32 a0, .int .i32 12441, .int .i32 12442] rfl (by (try simp only [List.map_toArray, List.map_cons, List.map_nil]); first | done | rfl) ?_; (with_reducible refine (tremaref02_in.calls a0 12441 12442 t207 _ A33.out).mono ?_); rintro e w' ⟨rfl, ⟨nd, rfl⟩⟩; refine ⟨_, rfl, ?_⟩))
           go_meet
           case rel => exact ⟨_, (t207), (by first | rfl | (simp; done) | (simp [*]; done)), H', ⟨by have := HJ2.out; have := HJ13.out; first | omega | exact Nat.le_refl _⟩, by repeat (first | exact Drawn0.refl _ | apply Drawn0.step)⟩
       case rest =>
        clear HC27
        try clear c1
        try clear c2
        try clear p2
        try clear c3
        try clear c4
        try clear c6
        try clear c8
        try clear c10
        try clear c12
        try clear c13
        try clear c15
        try clear c17
        try clear c19
        try clear c21
        try clear c23
        try clear c25
        try clear c28
        try clear c30
        try clear c31
        try clear c32
        try clear p2
        obtain ⟨kq, x31_26, rfl, HA, HJ26, ⟨mc26, rfl⟩⟩ := hcut
        cases kq with
        | zero => exact absurd HA.out (by simp [tremaref02_Category.j2])
        | succ kj26 =>
         have H := HA.out
         clear HA
         simp only [tremaref02_Category.j2] at H
         by_cases c34 : x31_26 = true
         ·subst c34
          have H1 : (some 2) = some r := by rw [if_pos rfl] at H; exact H
          clear H
          have H := H1
          clear H1
          obtain rfl := Option.some.inj H
          go_wp2
          go_ret
          exact ⟨by first | rfl | (simp; done) | (simp [*]; done), by repeat (first | exact Drawn0.refl _ | apply Drawn0.step)⟩
         ·as_aux_lemma =>
          replace c34 := Bool.eq_false_iff.mpr c34
          subst c34
          have H1 : ((tremaref02_in.f a0 33 35).bind fun t208 => (if t208 = true then (tremaref02_Category.j6 kj26 a0 t208) else ((tremaref02_in.f a0 37 42).bind fun t209 => (if t209 = true then (tremaref02_Category.j6 kj26 a0 t209) else ((tremaref02_in.f a0 44 47).bind fun t210 => (if t210 = true then (tremaref02_Category.j6 kj26 a0 t210) else ((tremaref02_in.f a0 58 59).bind fun t211 => (if t211 = true then (tremaref02_Category.j3 kj26 a0 true) else ((tremaref02_in.f a0 63 64).bind fun t212 => (tremaref02_Category.j3 kj26 a0 t212)))))))))) = some r := by rw [if_neg (show ¬ (false = true) by decide)] at H; exact H
          clear H
          have H := H1
          clear H1
          replace H := Option.bind_eq_some_iff.mp H
          obtain ⟨t208, A350, H⟩ := H
          replace H : (if t208 = true then (tremaref02_Category.j6 kj26 a0 t208) else ((tremaref02_in.f a0 37 42).bind fun t209 => (if t209 = true then (tremaref02_Category.j6 kj26 a0 t209) else ((tremaref02_in.f a0 44 47).bind fun t210 => (if t210 = true then (tremaref02_Category.j6 kj26 a0 t210) else ((tremaref02_in.f a0 58 59).bind fun t211 => (if t211 = true then (tremaref02_Category.j3 kj26 a0 true) else ((tremaref02_in.f a0 63 64).bind fun t212 => (tremaref02_Category.j3 kj26 a0 t212))))))))) = some r := H
          have A35 := Aside0.mk A350
          clear A350
          have HC36 := Aside0.mk H
          clear H
          go_upto_if 40 with (first | ((with_reducible refine gate_callee (f := 31) rfl ?_); refine goesL_ (some 42) rfl rfl Tryd.func31 (by kernel_rfl) rfl #[.int .i32 a0, .int .i32 33, .int .i32 35] rfl (by (try simp only [List.map_toArray, List.map_cons, List.map_nil]); first | done | rfl) ?_; (with_reducible refine (tremaref02_in.calls a0 33 35 t208 _ A35.out).mono ?_); rintro e w' ⟨rfl, ⟨nd, rfl⟩⟩; refine ⟨_, rfl, ?_⟩))
          (try simp only [Act.put, List.setIfInBounds_toArray, List.set_cons_zero, List.set_cons_succ])
          go_cut [40] (fun v40 wc => ∃ (kq : Nat) (x40_35 : Bool), v40 = .bool x40_35 ∧ Aside0 (tremaref02_Category.j6 kq a0 x40_35 = some r) ∧ Aside0 (kq ≤ kj26) ∧ Drawn0 w wc)
          case first =>
           have H := HC36.out
           clear HC36
           by_cases c37 : t208 = true
           ·subst c37
            have H1 : (tremaref02_Category.j6 kj26 a0 true) = some r := by rw [if_pos rfl] at H; exact H
            clear H
            have H := H1
            clear H1
            have H' := Aside0.mk H
            clear H
            go_wp2
            go_meet
            case rel => exact ⟨_, (true), (by first | rfl | (simp; done) | (simp [*]; done)), H', ⟨by have := HJ2.out; have := HJ13.out; have := HJ26.out; first | omega | exact Nat.le_refl _⟩, by repeat (first | exact Drawn0.refl _ | apply Drawn0.step)⟩
           ·as_aux_lemma =>
            replace c37 := Bool.eq_false_iff.mpr c37
            subst c37
            have H1 : ((tremaref02_in.f a0 37 42).bind fun t209 => (if t209 = true then (tremaref02_Category.j6 kj26 a0 t209) else ((tremaref02_in.f a0 44 47).bind fun t210 => (if t210 = true then (tremaref02_Category.j6 kj26 a0 t210) else ((tremaref02_in.f a0 58 59).bind fun t211 => (if t211 = true then (tremaref02_Category.j3 kj26 a0 true) else ((tremaref02_in.f a0 63 64).bind fun t212 => (tremaref02_Category.j3 kj26 a0 t212)))))))) = some r := by rw [if_neg (show ¬ (false = true) by decide)] at H; exact H
            clear H
            have H := H1
            clear H1
            replace H := Option.bind_eq_some_iff.mp H
            obtain ⟨t209, A380, H⟩ := H
            replace H : (if t209 = true then (tremaref02_Category.j6 kj26 a0 t209) else ((tremaref02_in.f a0 44 47).bind fun t210 => (if t210 = true then (tremaref02_Category.j6 kj26 a0 t210) else ((tremaref02_in.f a0 58 59).bind fun t211 => (if t211 = true then (tremaref02_Category.j3 kj26 a0 true) else ((tremaref02_in.f a0 63 64).bind fun t212 => (tremaref02_Category.j3 kj26 a0 t212))))))) = some r := H
            have A38 := Aside0.mk A380
            clear A380
            by_cases c39 : t209 = true
            ·subst c39
             have H1 : (tremaref02_Category.j6 kj26 a0 true) = some r := by rw [if_pos rfl] at H; exact H
             clear H
             have H := H1
             clear H1
             have H' := Aside0.mk H
             clear H
             go_wp2_with (first | ((with_reducible refine gate_callee (f := 31) rfl ?_); refine goesL_ (some 44) rfl rfl Tryd.func31 (by kernel_rfl) rfl #[.int .i32 a0, .int .i32 37, .int .i32 42] rfl (by (try simp only [List.map_toArray, List.map_cons, List.map_nil]); first | done | rfl) ?_; (with_reducible refine (tremaref02_in.calls a0 37 42 true _ A38.out).mono ?_); rintro e w' ⟨rfl, ⟨nd, rfl⟩⟩; refine ⟨_, rfl, ?_⟩))
             go_meet
             case rel => exact ⟨_, (true), (by first | rfl | (simp; done) | (simp [*]; done)), H', ⟨by have := HJ2.out; have := HJ13.out; have := HJ26.out; first | omega | exact Nat.le_refl _⟩, by repeat (first | exact Drawn0.refl _ | apply Drawn0.step)⟩
            ·as_aux_lemma =>
             replace c39 := Bool.eq_false_iff.mpr c39
             subst c39
             have H1 : ((tremaref02_in.f a0 44 47).bind fun t210 => (if t210 = true then (tremaref02_Category.j6 kj26 a0 t210) else ((tremaref02_in.f a0 58 59).bind fun t211 => (if t211 = true then (tremaref02_Category.j3 kj26 a0 true) else ((tremaref02_in.f a0 63 64).bind fun t212 => (tremaref02_Category.j3 kj26 a0 t212)))))) = some r := by rw [if_neg (show ¬ (false = true) by decide)] at H; exact H
             clear H
             have H := H1
             clear H1
             replace H := Option.bind_eq_some_iff.mp H
             obtain ⟨t210, A400, H⟩ := H
             replace H : (if t210 = true then (tremaref02_Category.j6 kj26 a0 t210) else ((tremaref02_in.f a0 58 59).bind fun t211 => (if t211 = true then (tremaref02_Category.j3 kj26 a0 true) else ((tremaref02_in.f a0 63 64).bind fun t212 => (tremaref02_Category.j3 kj26 a0 t212))))) = some r := H
             have A40 := Aside0.mk A400
             clear A400
             by_cases c41 : t210 = true
             ·subst c41
              have H1 : (tremaref02_Category.j6 kj26 a0 true) = some r := by rw [if_pos rfl] at H; exact H
              clear H
              have H := H1
              clear H1
              have H' := Aside0.mk H
              clear H
              go_wp2_with (first | ((with_reducible refine gate_callee (f := 31) rfl ?_); refine goesL_ (some 44) rfl rfl Tryd.func31 (by kernel_rfl) rfl #[.int .i32 a0, .int .i32 37, .int .i32 42] rfl (by (try simp only [List.map_toArray, List.map_cons, List.map_nil]); first | done | rfl) ?_; (with_reducible refine (tremaref02_in.calls a0 37 42 false _ A38.out).mono ?_); rintro e w' ⟨rfl, ⟨nd, rfl⟩⟩; refine ⟨_, rfl, ?_⟩) | ((with_reducible refine gate_callee (f := 31) rfl ?_); refine goesL_ (some 46) rfl rfl Tryd.func31 (by kernel_rfl) rfl #[.int .i32 a0, .int .i32 44, .int .i32 47] rfl (by (try simp only [List.map_toArray, List.map_cons, List.map_nil]); first | done | rfl) ?_; (with_reducible refine (tremaref02_in.calls a0 44 47 true _ A40.out).mono ?_); rintro e w' ⟨rfl, ⟨nd, rfl⟩⟩; refine ⟨_, rfl, ?_⟩))
              go_meet
              case rel => exact ⟨_, (true), (by first | rfl | (simp; done) | (simp [*]; done)), H', ⟨by have := HJ2.out; have := HJ13.out; have := HJ26.out; first | omega | exact Nat.le_refl _⟩, by repeat (first | exact Drawn0.refl _ | apply Drawn0.step)⟩
             ·as_aux_lemma =>
              replace c41 := Bool.eq_false_iff.mpr c41
              subst c41
              have H1 : ((tremaref02_in.f a0 58 59).bind fun t211 => (if t211 = true then (tremaref02_Category.j3 kj26 a0 true) else ((tremaref02_in.f a0 63 64).bind fun t212 => (tremaref02_Category.j3 kj26 a0 t212)))) = some r := by rw [if_neg (show ¬ (false = true) by decide)] at H; exact H
              clear H
              have H := H1
              clear H1
              have HC42 := Aside0.mk H
              clear H
              go_upto_region 20 with (first | ((with_reducible refine gate_callee (f := 31) rfl ?_); refine goesL_ (some 44) rfl rfl Tryd.func31 (by kernel_rfl) rfl #[.int .i32 a0, .int .i32 37, .int .i32 42] rfl (by (try simp only [List.map_toArray, List.map_cons, List.map_nil]); first | done | rfl) ?_; (with_reducible refine (tremaref02_in.calls a0 37 42 false _ A38.out).mono ?_); rintro e w' ⟨rfl, ⟨nd, rfl⟩⟩; refine ⟨_, rfl, ?_⟩) | ((with_reducible refine gate_callee (f := 31) rfl ?_); refine goesL_ (some 46) rfl rfl Tryd.func31 (by kernel_rfl) rfl #[.int .i32 a0, .int .i32 44, .int .i32 47] rfl (by (try simp only [List.map_toArray, List.map_cons, List.map_nil]); first | done | rfl) ?_; (with_reducible refine (tremaref02_in.calls a0 44 47 false _ A40.out).mono ?_); rintro e w' ⟨rfl, ⟨nd, rfl⟩⟩; refine ⟨_, rfl, ?_⟩))
              (try simp only [Act.put, List.setIfInBounds_toArray, List.set_cons_zero, List.set_cons_succ])
              go_cut [40] (fun v40 wc => ∃ (kq : Nat) (x40_41 : Bool), v40 = .bool x40_41 ∧ Aside0 (tremaref02_Category.j3 kq a0 x40_41 = some r) ∧ Aside0 (kq ≤ kj26) ∧ Drawn0 w wc)
              case first =>
               have H := HC42.out
               clear HC42
               replace H := Option.bind_eq_some_iff.mp H
               obtain ⟨t211, A430, H⟩ := H
               replace H : (if t211 = true then (tremaref02_Category.j3 kj26 a0 true) else ((tremaref02_in.f a0 63 64).bind fun t212 => (tremaref02_Category.j3 kj26 a0 t212))) = some r := H
               have A43 := Aside0.mk A430
               clear A430
               by_cases c44 : t211 = true
               ·subst c44
                have H1 : (tremaref02_Category.j3 kj26 a0 true) = some r := by rw [if_pos rfl] at H; exact H
                clear H
                have H := H1
                clear H1
                have H' := Aside0.mk H
                clear H
                go_wp2_with (first | ((with_reducible refine gate_callee (f := 31) rfl ?_); refine goesL_ (some 48) rfl rfl Tryd.func31 (by kernel_rfl) rfl #[.int .i32 a0, .int .i32 58, .int .i32 59] rfl (by (try simp only [List.map_toArray, List.map_cons, List.map_nil]); first | done | rfl) ?_; (with_reducible refine (tremaref02_in.calls a0 58 59 true _ A43.out).mono ?_); rintro e w' ⟨rfl, ⟨nd, rfl⟩⟩; refine ⟨_, rfl, ?_⟩))
                go_meet
                case rel => exact ⟨_, (true), (by first | rfl | (simp; done) | (simp [*]; done)), H', ⟨by have := HJ2.out; have := HJ13.out; have := HJ26.out; first | omega | exact Nat.le_refl _⟩, by repeat (first | exact Drawn0.refl _ | apply Drawn0.step)⟩
               ·as_aux_lemma =>
                replace c44 := Bool.eq_false_iff.mpr c44
                subst c44
                have H1 : ((tremaref02_in.f a0 63 64).bind fun t212 => (tremaref02_Category.j3 kj26 a0 t212)) = some r := by rw [if_neg (show ¬ (false = true) by decide)] at H; exact H
                clear H
                have H := H1
                clear H1
                replace H := Option.bind_eq_some_iff.mp H
                obtain ⟨t212, A450, H⟩ := H
                replace H : (tremaref02_Category.j3 kj26 a0 t212) = some r := H
                have A45 := Aside0.mk A450
                clear A450
                have H' := Aside0.mk H
                clear H
                go_wp2_with (first | ((with_reducible refine gate_callee (f := 31) rfl ?_); refine goesL_ (some 48) rfl rfl Tryd.func31 (by kernel_rfl) rfl #[.int .i32 a0, .int .i32 58, .int .i32 59] rfl (by (try simp only [List.map_toArray, List.map_cons, List.map_nil]); first | done | rfl) ?_; (with_reducible refine (tremaref02_in.calls a0 58 59 false _ A43.out).mono ?_); rintro e w' ⟨rfl, ⟨nd, rfl⟩⟩; refine ⟨_, rfl, ?_⟩) | (go_at_call 31; (with_reducible refine (tremaref02_in.calls a0 63 64 t212 _ A45.out).mono ?_); rintro e w' ⟨rfl, ⟨nd, rfl⟩⟩))
                go_meet
                case rel => exact ⟨_, (t212), (by first | rfl | (simp; done) | (simp [*]; done)), H', ⟨by have := HJ2.out; have := HJ13.out; have := HJ26.out; first | omega | exact Nat.le_refl _⟩, by repeat (first | exact Drawn0.refl _ | apply Drawn0.step)⟩
              case rest =>
               clear HC42
               try clear c1
               try clear c2
               try clear p2
               try clear c3
               try clear c4
               try clear c6
               try clear c8
               try clear c10
               try clear c12
               try clear c13
               try clear c15
               try clear c17
               try clear c19
               try clear c21
               try clear c23
               try clear c25
               try clear c26
               try clear c28
               try clear c30
               try clear c31
               try clear c32
               try clear c34
               try clear c37
               try clear c39
               try clear c41
               try clear c44
               try clear p2
               obtain ⟨kq, x40_41, rfl, HA, HJ41, ⟨mc41, rfl⟩⟩ := hcut
               cases kq with
               | zero => exact absurd HA.out (by simp [tremaref02_Category.j3])
               | succ kj41 =>
                have H := HA.out
                clear HA
                simp only [tremaref02_Category.j3] at H
                by_cases c46 : x40_41 = true
                ·subst c46
                 have H1 : (tremaref02_Category.j6 kj41 a0 true) = some r := by rw [if_pos rfl] at H; exact H
                 clear H
                 have H := H1
                 clear H1
                 have H' := Aside0.mk H
                 clear H
                 go_wp2
                 go_meet
                 case rel => exact ⟨_, (true), (by first | rfl | (simp; done) | (simp [*]; done)), H', ⟨by have := HJ2.out; have := HJ13.out; have := HJ26.out; have := HJ41.out; first | omega | exact Nat.le_refl _⟩, by repeat (first | exact Drawn0.refl _ | apply Drawn0.step)⟩
                ·as_aux_lemma =>
                 replace c46 := Bool.eq_false_iff.mpr c46
                 subst c46
                 have H1 : ((tremaref02_in.f a0 91 93).bind fun t213 => (if t213 = true then (tremaref02_Category.j6 kj41 a0 t213) else ((tremaref02_in.f a0 95 95).bind fun t214 => (if t214 = true then (tremaref02_Category.j6 kj41 a0 t214) else ((tremaref02_in.f a0 123 123).bind fun t215 => (if t215 = true then (tremaref02_Category.j4 kj41 a0 true) else ((tremaref02_in.f a0 125 125).bind fun t216 => (tremaref02_Category.j4 kj41 a0 t216)))))))) = some r := by rw [if_neg (show ¬ (false = true) by decide)] at H; exact H
                 clear H
                 have H := H1
                 clear H1
                 replace H := Option.bind_eq_some_iff.mp H
                 obtain ⟨t213, A470, H⟩ := H
                 replace H : (if t213 = true then (tremaref02_Category.j6 kj41 a0 t213) else ((tremaref02_in.f a0 95 95).bind fun t214 => (if t214 = true then (tremaref02_Category.j6 kj41 a0 t214) else ((tremaref02_in.f a0 123 123).bind fun t215 => (if t215 = true then (tremaref02_Category.j4 kj41 a0 true) else ((tremaref02_in.f a0 125 125).bind fun t216 => (tremaref02_Category.j4 kj41 a0 t216))))))) = some r := H
                 have A47 := Aside0.mk A470
                 clear A470
                 by_cases c48 : t213 = true
                 ·subst c48
                  have H1 : (tremaref02_Category.j6 kj41 a0 true) = some r := by rw [if_pos rfl] at H; exact H
                  clear H
                  have H := H1
                  clear H1
                  have H' := Aside0.mk H
                  clear H
                  go_wp2_with (first | ((with_reducible refine gate_callee (f := 31) rfl ?_); refine goesL_ (some 54) rfl rfl Tryd.func31 (by kernel_rfl) rfl #[.int .i32 a0, .int .i32 91, .int .i32 93] rfl (by (try simp only [List.map_toArray, List.map_cons, List.map_nil]); first | done | rfl) ?_; (with_reducible refine (tremaref02_in.calls a0 91 93 true _ A47.out).mono ?_); rintro e w' ⟨rfl, ⟨nd, rfl⟩⟩; refine ⟨_, rfl, ?_⟩))
                  go_meet
                  case rel => exact ⟨_, (true), (by first | rfl | (simp; done) | (simp [*]; done)), H', ⟨by have := HJ2.out; have := HJ13.out; have := HJ26.out; have := HJ41.out; first | omega | exact Nat.le_refl _⟩, by repeat (first | exact Drawn0.refl _ | apply Drawn0.step)⟩
                 ·as_aux_lemma =>
                  replace c48 := Bool.eq_false_iff.mpr c48
                  subst c48
                  have H1 : ((tremaref02_in.f a0 95 95).bind fun t214 => (if t214 = true then (tremaref02_Category.j6 kj41 a0 t214) else ((tremaref02_in.f a0 123 123).bind fun t215 => (if t215 = true then (tremaref02_Category.j4 kj41 a0 true) else ((tremaref02_in.f a0 125 125).bind fun t216 => (tremaref02_Category.j4 kj41 a0 t216)))))) = some r := by rw [if_neg (show ¬ (false = true) by decide)] at H; exact H
                  clear H
                  have H := H1
                  clear H1
                  replace H := Option.bind_eq_some_iff.mp H
                  obtain ⟨t214, A490, H⟩ := H
                  replace H : (if t214 = true then (tremaref02_Category.j6 kj41 a0 t214) else ((tremaref02_in.f a0 123 123).bind fun t215 => (if t215 = true then (tremaref02_Category.j4 kj41 a0 true) else ((tremaref02_in.f a0 125 125).bind fun t216 => (tremaref02_Category.j4 kj41 a0 t216))))) = some r := H
                  have A49 := Aside0.mk A490
                  clear A490
                  by_cases c50 : t214 = true
                  ·subst c50
                   have H1 : (tremaref02_Category.j6 kj41 a0 true) = some r := by rw [if_pos rfl] at H; exact H
                   clear H
                   have H := H1
                   clear H1
                   have H' := Aside0.mk H
                   clear H
                   go_wp2_with (first | ((with_reducible refine gate_callee (f := 31) rfl ?_); refine goesL_ (some 54) rfl rfl Tryd.func31 (by kernel_rfl) rfl #[.int .i32 a0, .int .i32 91, .int .i32 93] rfl (by (try simp only [List.map_toArray, List.map_cons, List.map_nil]); first | done | rfl) ?_; (with_reducible refine (tremaref02_in.calls a0 91 93 false _ A47.out).mono ?_); rintro e w' ⟨rfl, ⟨nd, rfl⟩⟩; refine ⟨_, rfl, ?_⟩) | ((with_reducible refine gate_callee (f := 31) rfl ?_); refine goesL_ (some 56) rfl rfl Tryd.func31 (by kernel_rfl) rfl #[.int .i32 a0, .int .i32 95, .int .i32 95] rfl (by (try simp only [List.map_toArray, List.map_cons, List.map_nil]); first | done | rfl) ?_; (with_reducible refine (tremaref02_in.calls a0 95 95 true _ A49.out).mono ?_); rintro e w' ⟨rfl, ⟨nd, rfl⟩⟩; refine ⟨_, rfl, ?_⟩))
                   go_meet
                   case rel => exact ⟨_, (true), (by first | rfl | (simp; done) | (simp [*]; done)), H', ⟨by have := HJ2.out; have := HJ13.out; have := HJ26.out; have := HJ41.out; first | omega | exact Nat.le_refl _⟩, by repeat (first | exact Drawn0.refl _ | apply Drawn0.step)⟩
                  ·as_aux_lemma =>
                   replace c50 := Bool.eq_false_iff.mpr c50
                   subst c50
                   have H1 : ((tremaref02_in.f a0 123 123).bind fun t215 => (if t215 = true then (tremaref02_Category.j4 kj41 a0 true) else ((tremaref02_in.f a0 125 125).bind fun t216 => (tremaref02_Category.j4 kj41 a0 t216)))) = some r := by rw [if_neg (show ¬ (false = true) by decide)] at H; exact H
                   clear H
                   have H := H1
                   clear H1
                   have HC51 := Aside0.mk H
                   clear H
                   go_upto_region 23 with (first | ((with_reducible refine gate_callee (f := 31) rfl ?_); refine goesL_ (some 54) rfl rfl Tryd.func31 (by kernel_rfl) rfl #[.int .i32 a0, .int .i32 91, .int .i32 93] rfl (by (try simp only [List.map_toArray, List.map_cons, List.map_nil]); first | done | rfl) ?_; (with_reducible refine (tremaref02_in.calls a0 91 93 false _ A47.out).mono ?_); rintro e w' ⟨rfl, ⟨nd, rfl⟩⟩; refine ⟨_, rfl, ?_⟩) | ((with_reducible refine gate_callee (f := 31) rfl ?_); refine goesL_ (some 56) rfl rfl Tryd.func31 (by kernel_rfl) rfl #[.int .i32 a0, .int .i32 95, .int .i32 95] rfl (by (try simp only [List.map_toArray, List.map_cons, List.map_nil]); first | done | rfl) ?_; (with_reducible refine (tremaref02_in.calls a0 95 95 false _ A49.out).mono ?_); rintro e w' ⟨rfl, ⟨nd, rfl⟩⟩; refine ⟨_, rfl, ?_⟩))
                   (try simp only [Act.put, List.setIfInBounds_toArray, List.set_cons_zero, List.set_cons_succ])
                   go_cut [40] (fun v40 wc => ∃ (kq : Nat) (x40_50 : Bool), v40 = .bool x40_50 ∧ Aside0 (tremaref02_Category.j4 kq a0 x40_50 = some r) ∧ Aside0 (kq ≤ kj41) ∧ Drawn0 w wc)
                   case first =>
                    have H := HC51.out
                    clear HC51
                    replace H := Option.bind_eq_some_iff.mp H
                    obtain ⟨t215, A520, H⟩ := H
                    replace H : (if t215 = true then (tremaref02_Category.j4 kj41 a0 true) else ((tremaref02_in.f a0 125 125).bind fun t216 => (tremaref02_Category.j4 kj41 a0 t216))) = some r := H
                    have A52 := Aside0.mk A520
                    clear A520
                    by_cases c53 : t215 = true
                    ·subst c53
                     have H1 : (tremaref02_Category.j4 kj41 a0 true) = some r := by rw [if_pos rfl] at H; exact H
                     clear H
                     have H := H1
                     clear H1
                     have H' := Aside0.mk H
                     clear H
                     go_wp2_with (first | ((with_reducible refine gate_callee (f := 31) rfl ?_); refine goesL_ (some 58) rfl rfl Tryd.func31 (by kernel_rfl) rfl #[.int .i32 a0, .int .i32 123, .int .i32 123] rfl (by (try simp only [List.map_toArray, List.map_cons, List.map_nil]); first | done | rfl) ?_; (with_reducible refine (tremaref02_in.calls a0 123 123 true _ A52.out).mono ?_); rintro e w' ⟨rfl, ⟨nd, rfl⟩⟩; refine ⟨_, rfl, ?_⟩))
                     go_meet
                     case rel => exact ⟨_, (true), (by first | rfl | (simp; done) | (simp [*]; done)), H', ⟨by have := HJ2.out; have := HJ13.out; have := HJ26.out; have := HJ41.out; first | omega | exact Nat.le_refl _⟩, by repeat (first | exact Drawn0.refl _ | apply Drawn0.step)⟩
                    ·as_aux_lemma =>
                     replace c53 := Bool.eq_false_iff.mpr c53
                     subst c53
                     have H1 : ((tremaref02_in.f a0 125 125).bind fun t216 => (tremaref02_Category.j4 kj41 a0 t216)) = some r := by rw [if_neg (show ¬ (false = true) by decide)] at H; exact H
                     clear H
                     have H := H1
                     clear H1
                     replace H := Option.bind_eq_some_iff.mp H
                     obtain ⟨t216, A540, H⟩ := H
                     replace H : (tremaref02_Category.j4 kj41 a0 t216) = some r := H
                     have A54 := Aside0.mk A540
                     clear A540
                     have H' := Aside0.mk H
                     clear H
                     go_wp2_with (first | ((with_reducible refine gate_callee (f := 31) rfl ?_); refine goesL_ (some 58) rfl rfl Tryd.func31 (by kernel_rfl) rfl #[.int .i32 a0, .int .i32 123, .int .i32 123] rfl (by (try simp only [List.map_toArray, List.map_cons, List.map_nil]); first | done | rfl) ?_; (with_reducible refine (tremaref02_in.calls a0 123 123 false _ A52.out).mono ?_); rintro e w' ⟨rfl, ⟨nd, rfl⟩⟩; refine ⟨_, rfl, ?_⟩) | (go_at_call 31; (with_reducible refine (tremaref02_in.calls a0 125 125 t216 _ A54.out).mono ?_); rintro e w' ⟨rfl, ⟨nd, rfl⟩⟩))
                     go_meet
                     case rel => exact ⟨_, (t216), (by first | rfl | (simp; done) | (simp [*]; done)), H', ⟨by have := HJ2.out; have := HJ13.out; have := HJ26.out; have := HJ41.out; first | omega | exact Nat.le_refl _⟩, by repeat (first | exact Drawn0.refl _ | apply Drawn0.step)⟩
                   case rest =>
                    clear HC51
                    try clear c1
                    try clear c2
                    try clear p2
                    try clear c3
                    try clear c4
                    try clear c5
                    try clear c6
                    try clear c8
                    try clear c10
                    try clear c12
                    try clear c13
                    try clear c15
                    try clear c17
                    try clear c19
                    try clear c21
                    try clear c23
                    try clear c25
                    try clear c26
                    try clear c28
                    try clear c30
                    try clear c31
                    try clear c32
                    try clear c34
                    try clear c37
                    try clear c39
                    try clear c41
                    try clear c44
                    try clear c46
                    try clear c48
                    try clear c50
                    try clear c53
                    try clear p2
                    obtain ⟨kq, x40_50, rfl, HA, HJ50, ⟨mc50, rfl⟩⟩ := hcut
                    cases kq with
                    | zero => exact absurd HA.out (by simp [tremaref02_Category.j4])
                    | succ kj50 =>
                     have H := HA.out
                     clear HA
                     simp only [tremaref02_Category.j4] at H
                     by_cases c55 : x40_50 = true
                     ·subst c55
                      have H1 : (tremaref02_Category.j6 kj50 a0 true) = some r := by rw [if_pos rfl] at H; exact H
                      clear H
                      have H := H1
                      clear H1
                      have H' := Aside0.mk H
                      clear H
                      go_wp2
                      go_meet
                      case rel => exact ⟨_, (true), (by first | rfl | (simp; done) | (simp [*]; done)), H', ⟨by have := HJ2.out; have := HJ13.out; have := HJ26.out; have := HJ41.out; have := HJ50.out; first | omega | exact Nat.le_refl _⟩, by repeat (first | exact Drawn0.refl _ | apply Drawn0.step)⟩
                     ·as_aux_lemma =>
                      replace c55 := Bool.eq_false_iff.mpr c55
                      subst c55
                      have H1 : ((tremaref02_in.f a0 161 161).bind fun t217 => (if t217 = true then (tremaref02_Category.j6 kj50 a0 t217) else ((tremaref02_in.f a0 167 167).bind fun t218 => (if t218 = true then (tremaref02_Category.j6 kj50 a0 t218) else ((tremaref02_in.f a0 171 171).bind fun t219 => (if t219 = true then (tremaref02_Category.j5 kj50 a0 true) else ((tremaref02_in.f a0 182 183).bind fun t220 => (tremaref02_Category.j5 kj50 a0 t220)))))))) = some r := by rw [if_neg (show ¬ (false = true) by decide)] at H; exact H
                      clear H
                      have H := H1
                      clear H1
                      replace H := Option.bind_eq_some_iff.mp H
                      obtain ⟨t217, A560, H⟩ := H
                      replace H : (if t217 = true then (tremaref02_Category.j6 kj50 a0 t217) else ((tremaref02_in.f a0 167 167).bind fun t218 => (if t218 = true then (tremaref02_Category.j6 kj50 a0 t218) else ((tremaref02_in.f a0 171 171).bind fun t219 => (if t219 = true then (tremaref02_Category.j5 kj50 a0 true) else ((tremaref02_in.f a0 182 183).bind fun t220 => (tremaref02_Category.j5 kj50 a0 t220))))))) = some r := H
                      have A56 := Aside0.mk A560
                      clear A560
                      by_cases c57 : t217 = true
                      ·subst c57
                       have H1 : (tremaref02_Category.j6 kj50 a0 true) = some r := by rw [if_pos rfl] at H; exact H
                       clear H
                       have H := H1
                       clear H1
                       have H' := Aside0.mk H
                       clear H
                       go_wp2_with (first | ((with_reducible refine gate_callee (f := 31) rfl ?_); refine goesL_ (some 64) rfl rfl Tryd.func31 (by kernel_rfl) rfl #[.int .i32 a0, .int .i32 161, .int .i32 161] rfl (by (try simp only [List.map_toArray, List.map_cons, List.map_nil]); first | done | rfl) ?_; (with_reducible refine (tremaref02_in.calls a0 161 161 true _ A56.out).mono ?_); rintro e w' ⟨rfl, ⟨nd, rfl⟩⟩; refine ⟨_, rfl, ?_⟩))
                       go_meet
                       case rel => exact ⟨_, (true), (by first | rfl | (simp; done) | (simp [*]; done)), H', ⟨by have := HJ2.out; have := HJ13.out; have := HJ26.out; have := HJ41.out; have := HJ50.out; first | omega | exact Nat.le_refl _⟩, by repeat (first | exact Drawn0.refl _ | apply Drawn0.step)⟩
                      ·as_aux_lemma =>
                       replace c57 := Bool.eq_false_iff.mpr c57
                       subst c57
                       have H1 : ((tremaref02_in.f a0 167 167).bind fun t218 => (if t218 = true then (tremaref02_Category.j6 kj50 a0 t218) else ((tremaref02_in.f a0 171 171).bind fun t219 => (if t219 = true then (tremaref02_Category.j5 kj50 a0 true) else ((tremaref02_in.f a0 182 183).bind fun t220 => (tremaref02_Category.j5 kj50 a0 t220)))))) = some r := by rw [if_neg (show ¬ (false = true) by decide)] at H; exact H
                       clear H
                       have H := H1
                       clear H1
                       replace H := Option.bind_eq_some_iff.mp H
                       obtain ⟨t218, A580, H⟩ := H
                       replace H : (if t218 = true then (tremaref02_Category.j6 kj50 a0 t218) else ((tremaref02_in.f a0 171 171).bind fun t219 => (if t219 = true then (tremaref02_Category.j5 kj50 a0 true) else ((tremaref02_in.f a0 182 183).bind fun t220 => (tremaref02_Category.j5 kj50 a0 t220))))) = some r := H
                       have A58 := Aside0.mk A580
                       clear A580
                       by_cases c59 : t218 = true
                       ·subst c59
                        have H1 : (tremaref02_Category.j6 kj50 a0 true) = some r := by rw [if_pos rfl] at H; exact H
                        clear H
                        have H := H1
                        clear H1
                        have H' := Aside0.mk H
                        clear H
                        go_wp2_with (first | ((with_reducible refine gate_callee (f := 31) rfl ?_); refine goesL_ (some 64) rfl rfl Tryd.func31 (by kernel_rfl) rfl #[.int .i32 a0, .int .i32 161, .int .i32 161] rfl (by (try simp only [List.map_toArray, List.map_cons, List.map_nil]); first | done | rfl) ?_; (with_reducible refine (tremaref02_in.calls a0 161 161 false _ A56.out).mono ?_); rintro e w' ⟨rfl, ⟨nd, rfl⟩⟩; refine ⟨_, rfl, ?_⟩) | ((with_reducible refine gate_callee (f := 31) rfl ?_); refine goesL_ (some 66) rfl rfl Tryd.func31 (by kernel_rfl) rfl #[.int .i32 a0, .int .i32 167, .int .i32 167] rfl (by (try simp only [List.map_toArray, List.map_cons, List.map_nil]); first | done | rfl) ?_; (with_reducible refine (tremaref02_in.calls a0 167 167 true _ A58.out).mono ?_); rintro e w' ⟨rfl, ⟨nd, rfl⟩⟩; refine ⟨_, rfl, ?_⟩))
                        go_meet
                        case rel => exact ⟨_, (true), (by first | rfl | (simp; done) | (simp [*]; done)), H', ⟨by have := HJ2.out; have := HJ13.out; have := HJ26.out; have := HJ41.out; have := HJ50.out; first | omega | exact Nat.le_refl _⟩, by repeat (first | exact Drawn0.refl _ | apply Drawn0.step)⟩
                       ·as_aux_lemma =>
                        replace c59 := Bool.eq_false_iff.mpr c59
                        subst c59
                        have H1 : ((tremaref02_in.f a0 171 171).bind fun t219 => (if t219 = true then (tremaref02_Category.j5 kj50 a0 true) else ((tremaref02_in.f a0 182 183).bind fun t220 => (tremaref02_Category.j5 kj50 a0 t220)))) = some r := by rw [if_neg (show ¬ (false = true) by decide)] at H; exact H
                        clear H
                        have H := H1
                        clear H1
                        have HC60 := Aside0.mk H
                        clear H
                        go_upto_region 26 with (first | ((with_reducible refine gate_callee (f := 31) rfl ?_); refine goesL_ (some 64) rfl rfl Tryd.func31 (by kernel_rfl) rfl #[.int .i32 a0, .int .i32 161, .int .i32 161] rfl (by (try simp only [List.map_toArray, List.map_cons, List.map_nil]); first | done | rfl) ?_; (with_reducible refine (tremaref02_in.calls a0 161 161 false _ A56.out).mono ?_); rintro e w' ⟨rfl, ⟨nd, rfl⟩⟩; refine ⟨_, rfl, ?_⟩) | ((with_reducible refine gate_callee (f := 31) rfl ?_); refine goesL_ (some 66) rfl rfl Tryd.func31 (by kernel_rfl) rfl #[.int .i32 a0, .int .i32 167, .int .i32 167] rfl (by (try simp only [List.map_toArray, List.map_cons, List.map_nil]); first | done | rfl) ?_; (with_reducible refine (tremaref02_in.calls a0 167 167 false _ A58.out).mono ?_); rintro e w' ⟨rfl, ⟨nd, rfl⟩⟩; refine ⟨_, rfl, ?_⟩))
                        (try simp only [Act.put, List.setIfInBounds_toArray, List.set_cons_zero, List.set_cons_succ])
                        go_cut [40] (fun v40 wc => ∃ (kq : Nat) (x40_59 : Bool), v40 = .bool x40_59 ∧ Aside0 (tremaref02_Category.j5 kq a0 x40_59 = some r) ∧ Aside0 (kq ≤ kj50) ∧ Drawn0 w wc)
                        case first =>
                         have H := HC60.out
                         clear HC60
                         replace H := Option.bind_eq_some_iff.mp H
                         obtain ⟨t219, A610, H⟩ := H
                         replace H : (if t219 = true then (tremaref02_Category.j5 kj50 a0 true) else ((tremaref02_in.f a0 182 183).bind fun t220 => (tremaref02_Category.j5 kj50 a0 t220))) = some r := H
                         have A61 := Aside0.mk A610
                         clear A610
                         by_cases c62 : t219 = true
                         ·subst c62
                          have H1 : (tremaref02_Category.j5 kj50 a0 true) = some r := by rw [if_pos rfl] at H; exact H
                          clear H
                          have H := H1
                          clear H1
                          have H' := Aside0.mk H
                          clear H
                          go_wp2_with (first | ((with_reducible refine gate_callee (f := 31) rfl ?_); refine goesL_ (some 68) rfl rfl Tryd.func31 (by kernel_rfl) rfl #[.int .i32 a0, .int .i32 171, .int .i32 171] rfl (by (try simp only [List.map_toArray, List.map_cons, List.map_nil]); first | done | rfl) ?_; (with_reducible refine (tremaref02_in.calls a0 171 171 true _ A61.out).mono ?_); rintro e w' ⟨rfl, ⟨nd, rfl⟩⟩; refine ⟨_, rfl, ?_⟩))
                          go_meet
                          case rel => exact ⟨_, (true), (by first | rfl | (simp; done) | (simp [*]; done)), H', ⟨by have := HJ2.out; have := HJ13.out; have := HJ26.out; have := HJ41.out; have := HJ50.out; first | omega | exact Nat.le_refl _⟩, by repeat (first | exact Drawn0.refl _ | apply Drawn0.step)⟩
                         ·as_aux_lemma =>
                          replace c62 := Bool.eq_false_iff.mpr c62
                          subst c62
                          have H1 : ((tremaref02_in.f a0 182 183).bind fun t220 => (tremaref02_Category.j5 kj50 a0 t220)) = some r := by rw [if_neg (show ¬ (false = true) by decide)] at H; exact H
                          clear H
                          have H := H1
                          clear H1
                          replace H := Option.bind_eq_some_iff.mp H
                          obtain ⟨t220, A630, H⟩ := H
                          replace H : (tremaref02_Category.j5 kj50 a0 t220) = some r := H
                          have A63 := Aside0.mk A630
                          clear A630
                          have H' := Aside0.mk H
                          clear H
                          go_wp2_with (first | ((with_reducible refine gate_callee (f := 31) rfl ?_); refine goesL_ (some 68) rfl rfl Tryd.func31 (by kernel_rfl) rfl #[.int .i32 a0, .int .i32 171, .int .i32 171] rfl (by (try simp only [List.map_toArray, List.map_cons, List.map_nil]); first | done | rfl) ?_; (with_reducible refine (tremaref02_in.calls a0 171 171 false _ A61.out).mono ?_); rintro e w' ⟨rfl, ⟨nd, rfl⟩⟩; refine ⟨_, rfl, ?_⟩) | (go_at_call 31; (with_reducible refine (tremaref02_in.calls a0 182 183 t220 _ A63.out).mono ?_); rintro e w' ⟨rfl, ⟨nd, rfl⟩⟩))
                          go_meet
                          case rel => exact ⟨_, (t220), (by first | rfl | (simp; done) | (simp [*]; done)), H', ⟨by have := HJ2.out; have := HJ13.out; have := HJ26.out; have := HJ41.out; have := HJ50.out; first | omega | exact Nat.le_refl _⟩, by repeat (first | exact Drawn0.refl _ | apply Drawn0.step)⟩
                        case rest =>
                         clear HC60
                         try clear c1
                         try clear c2
                         try clear p2
                         try clear c3
                         try clear c4
                         try clear c5
                         try clear c6
                         try clear c8
                         try clear c10
                         try clear c12
                         try clear c13
                         try clear c15
                         try clear c17
                         try clear c19
                         try clear c21
                         try clear c23
                         try clear c25
                         try clear c26
                         try clear c28
                         try clear c30
                         try clear c31
                         try clear c32
                         try clear c34
                         try clear c37
                         try clear c39
                         try clear c41
                         try clear c44
                         try clear c46
                         try clear c48
                         try clear c50
                         try clear c53
                         try clear c55
                         try clear c57
                         try clear c59
                         try clear c62
                         try clear p2
                         obtain ⟨kq, x40_59, rfl, HA, HJ59, ⟨mc59, rfl⟩⟩ := hcut
                         cases kq with
                         | zero => exact absurd HA.out (by simp [tremaref02_Category.j5])
                         | succ kj59 =>
                          have H := HA.out
                          clear HA
                          simp only [tremaref02_Category.j5] at H
                          by_cases c64 : x40_59 = true
                          ·subst c64
                           have H1 : (tremaref02_Category.j6 kj59 a0 true) = some r := by rw [if_pos rfl] at H; exact H
                           clear H
                           have H := H1
                           clear H1
                           have H' := Aside0.mk H
                           clear H
                           go_wp2
                           go_meet
                           case rel => exact ⟨_, (true), (by first | rfl | (simp; done) | (simp [*]; done)), H', ⟨by have := HJ2.out; have := HJ13.out; have := HJ26.out; have := HJ41.out; have := HJ50.out; have := HJ59.out; first | omega | exact Nat.le_refl _⟩, by repeat (first | exact Drawn0.refl _ | apply Drawn0.step)⟩
                          ·as_aux_lemma =>
                           replace c64 := Bool.eq_false_iff.mpr c64
                           subst c64
                           have H1 : ((tremaref02_in.f a0 187 187).bind fun t221 => (if t221 = true then (tremaref02_Category.j6 kj59 a0 t221) else ((tremaref02_in.f a0 191 191).bind fun t222 => (if t222 = true then (tremaref02_Category.j6 kj59 a0 t222) else ((tremaref02_in.f a0 903 903).bind fun t223 => (if t223 = true then (tremaref02_Category.j6 kj59 a0 true) else ((tremaref02_in.f a0 8208 8231).bind fun t224 => (if t224 = true then (tremaref02_Category.j6 kj59 a0 t224) else ((tremaref02_in.f a0 8240 8259).bind fun t225 => (if t225 = true then (tremaref02_Category.j6 kj59 a0 t225) else ((tremaref02_in.f a0 12289 12291).bind fun t226 => (tremaref02_Category.j6 kj59 a0 t226)))))))))))) = some r := by rw [if_neg (show ¬ (false = true) by decide)] at H; exact H
                           clear H
                           have H := H1
                           clear H1
                           replace H := Option.bind_eq_some_iff.mp H
                           obtain ⟨t221, A650, H⟩ := H
                           replace H : (if t221 = true then (tremaref02_Category.j6 kj59 a0 t221) else ((tremaref02_in.f a0 191 191).bind fun t222 => (if t222 = true then (tremaref02_Category.j6 kj59 a0 t222) else ((tremaref02_in.f a0 903 903).bind fun t223 => (if t223 = true then (tremaref02_Category.j6 kj59 a0 true) else ((tremaref02_in.f a0 8208 8231).bind fun t224 => (if t224 = true then (tremaref02_Category.j6 kj59 a0 t224) else ((tremaref02_in.f a0 8240 8259).bind fun t225 => (if t225 = true then (tremaref02_Category.j6 kj59 a0 t225) else ((tremaref02_in.f a0 12289 12291).bind fun t226 => (tremaref02_Category.j6 kj59 a0 t226))))))))))) = some r := H
                           have A65 := Aside0.mk A650
                           clear A650
                           by_cases c66 : t221 = true
                           ·subst c66
                            have H1 : (tremaref02_Category.j6 kj59 a0 true) = some r := by rw [if_pos rfl] at H; exact H
                            clear H
                            have H := H1
                            clear H1
                            have H' := Aside0.mk H
                            clear H
                            go_wp2_with (first | ((with_reducible refine gate_callee (f := 31) rfl ?_); refine goesL_ (some 74) rfl rfl Tryd.func31 (by kernel_rfl) rfl #[.int .i32 a0, .int .i32 187, .int .i32 187] rfl (by (try simp only [List.map_toArray, List.map_cons, List.map_nil]); first | done | rfl) ?_; (with_reducible refine (tremaref02_in.calls a0 187 187 true _ A65.out).mono ?_); rintro e w' ⟨rfl, ⟨nd, rfl⟩⟩; refine ⟨_, rfl, ?_⟩))
                            go_meet
                            case rel => exact ⟨_, (true), (by first | rfl | (simp; done) | (simp [*]; done)), H', ⟨by have := HJ2.out; have := HJ13.out; have := HJ26.out; have := HJ41.out; have := HJ50.out; have := HJ59.out; first | omega | exact Nat.le_refl _⟩, by repeat (first | exact Drawn0.refl _ | apply Drawn0.step)⟩
                           ·as_aux_lemma =>
                            replace c66 := Bool.eq_false_iff.mpr c66
                            subst c66
                            have H1 : ((tremaref02_in.f a0 191 191).bind fun t222 => (if t222 = true then (tremaref02_Category.j6 kj59 a0 t222) else ((tremaref02_in.f a0 903 903).bind fun t223 => (if t223 = true then (tremaref02_Category.j6 kj59 a0 true) else ((tremaref02_in.f a0 8208 8231).bind fun t224 => (if t224 = true then (tremaref02_Category.j6 kj59 a0 t224) else ((tremaref02_in.f a0 8240 8259).bind fun t225 => (if t225 = true then (tremaref02_Category.j6 kj59 a0 t225) else ((tremaref02_in.f a0 12289 12291).bind fun t226 => (tremaref02_Category.j6 kj59 a0 t226)))))))))) = some r := by rw [if_neg (show ¬ (false = true) by decide)] at H; exact H
                            clear H
                            have H := H1
                            clear H1
                            replace H := Option.bind_eq_some_iff.mp H
                            obtain ⟨t222, A670, H⟩ := H
                            replace H : (if t222 = true then (tremaref02_Category.j6 kj59 a0 t222) else ((tremaref02_in.f a0 903 903).bind fun t223 => (if t223 = true then (tremaref02_Category.j6 kj59 a0 true) else ((tremaref02_in.f a0 8208 8231).bind fun t224 => (if t224 = true then (tremaref02_Category.j6 kj59 a0 t224) else ((tremaref02_in.f a0 8240 8259).bind fun t225 => (if t225 = true then (tremaref02_Category.j6 kj59 a0 t225) else ((tremaref02_in.f a0 12289 12291).bind fun t226 => (tremaref02_Category.j6 kj59 a0 t226))))))))) = some r := H
                            have A67 := Aside0.mk A670
                            clear A670
                            by_cases c68 : t222 = true
                            ·subst c68
                             have H1 : (tremaref02_Category.j6 kj59 a0 true) = some r := by rw [if_pos rfl] at H; exact H
                             clear H
                             have H := H1
                             clear H1
                             have H' := Aside0.mk H
                             clear H
                             go_wp2_with (first | ((with_reducible refine gate_callee (f := 31) rfl ?_); refine goesL_ (some 74) rfl rfl Tryd.func31 (by kernel_rfl) rfl #[.int .i32 a0, .int .i32 187, .int .i32 187] rfl (by (try simp only [List.map_toArray, List.map_cons, List.map_nil]); first | done | rfl) ?_; (with_reducible refine (tremaref02_in.calls a0 187 187 false _ A65.out).mono ?_); rintro e w' ⟨rfl, ⟨nd, rfl⟩⟩; refine ⟨_, rfl, ?_⟩) | ((with_reducible refine gate_callee (f := 31) rfl ?_); refine goesL_ (some 76) rfl rfl Tryd.func31 (by kernel_rfl) rfl #[.int .i32 a0, .int .i32 191, .int .i32 191] rfl (by (try simp only [List.map_toArray, List.map_cons, List.map_nil]); first | done | rfl) ?_; (with_reducible refine (tremaref02_in.calls a0 191 191 true _ A67.out).mono ?_); rintro e w' ⟨rfl, ⟨nd, rfl⟩⟩; refine ⟨_, rfl, ?_⟩))
                             go_meet
                             case rel => exact ⟨_, (true), (by first | rfl | (simp; done) | (simp [*]; done)), H', ⟨by have := HJ2.out; have := HJ13.out; have := HJ26.out; have := HJ41.out; have := HJ50.out; have := HJ59.out; first | omega | exact Nat.le_refl _⟩, by repeat (first | exact Drawn0.refl _ | apply Drawn0.step)⟩
                            ·as_aux_lemma =>
                             replace c68 := Bool.eq_false_iff.mpr c68
                             subst c68
                             have H1 : ((tremaref02_in.f a0 903 903).bind fun t223 => (if t223 = true then (tremaref02_Category.j6 kj59 a0 true) else ((tremaref02_in.f a0 8208 8231).bind fun t224 => (if t224 = true then (tremaref02_Category.j6 kj59 a0 t224) else ((tremaref02_in.f a0 8240 8259).bind fun t225 => (if t225 = true then (tremaref02_Category.j6 kj59 a0 t225) else ((tremaref02_in.f a0 12289 12291).bind fun t226 => (tremaref02_Category.j6 kj59 a0 t226)))))))) = some r := by rw [if_neg (show ¬ (false = true) by decide)] at H; exact H
                             clear H
                             have H := H1
                             clear H1
                             replace H := Option.bind_eq_some_iff.mp H
                             obtain ⟨t223, A690, H⟩ := H
                             replace H : (if t223 = true then (tremaref02_Category.j6 kj59 a0 true) else ((tremaref02_in.f a0 8208 8231).bind fun t224 => (if t224 = true then (tremaref02_Category.j6 kj59 a0 t224) else ((tremaref02_in.f a0 8240 8259).bind fun t225 => (if t225 = true then (tremaref02_Category.j6 kj59 a0 t225) else ((tremaref02_in.f a0 12289 12291).bind fun t226 => (tremaref02_Category.j6 kj59 a0 t226))))))) = some r := H
                             have A69 := Aside0.mk A690
                             clear A690
                             by_cases c70 : t223 = true
                             ·subst c70
                              have H1 : (tremaref02_Category.j6 kj59 a0 true) = some r := by rw [if_pos rfl] at H; exact H
                              clear H
                              have H := H1
                              clear H1
                              have H' := Aside0.mk H
                              clear H
                              go_wp2_with (first | ((with_reducible refine gate_callee (f := 31) rfl ?_); refine goesL_ (some 74) rfl rfl Tryd.func31 (by kernel_rfl) rfl #[.int .i32 a0, .int .i32 187, .int .i32 187] rfl (by (try simp only [List.map_toArray, List.map_cons, List.map_nil]); first | done | rfl) ?_; (with_reducible refine (tremaref02_in.calls a0 187 187 false _ A65.out).mono ?_); rintro e w' ⟨rfl, ⟨nd, rfl⟩⟩; refine ⟨_, rfl, ?_⟩) | ((with_reducible refine gate_callee (f := 31) rfl ?_); refine goesL_ (some 76) rfl rfl Tryd.func31 (by kernel_rfl) rfl #[.int .i32 a0, .int .i32 191, .int .i32 191] rfl (by (try simp only [List.map_toArray, List.map_cons, List.map_nil]); first | done | rfl) ?_; (with_reducible refine (tremaref02_in.calls a0 191 191 false _ A67.out).mono ?_); rintro e w' ⟨rfl, ⟨nd, rfl⟩⟩; refine ⟨_, rfl, ?_⟩) | ((with_reducible refine gate_callee (f := 31) rfl ?_); refine goesL_ (some 78) rfl rfl Tryd.func31 (by kernel_rfl) rfl #[.int .i32 a0, .int .i32 903, .int .i32 903] rfl (by (try simp only [List.map_toArray, List.map_cons, List.map_nil]); first | done | rfl) ?_; (with_reducible refine (tremaref02_in.calls a0 903 903 true _ A69.out).mono ?_); rintro e w' ⟨rfl, ⟨nd, rfl⟩⟩; refine ⟨_, rfl, ?_⟩))
                              go_meet
                              case rel => exact ⟨_, (true), (by first | rfl | (simp; done) | (simp [*]; done)), H', ⟨by have := HJ2.out; have := HJ13.out; have := HJ26.out; have := HJ41.out; have := HJ50.out; have := HJ59.out; first | omega | exact Nat.le_refl _⟩, by repeat (first | exact Drawn0.refl _ | apply Drawn0.step)⟩
                             ·as_aux_lemma =>
                              replace c70 := Bool.eq_false_iff.mpr c70
                              subst c70
                              have H1 : ((tremaref02_in.f a0 8208 8231).bind fun t224 => (if t224 = true then (tremaref02_Category.j6 kj59 a0 t224) else ((tremaref02_in.f a0 8240 8259).bind fun t225 => (if t225 = true then (tremaref02_Category.j6 kj59 a0 t225) else ((tremaref02_in.f a0 12289 12291).bind fun t226 => (tremaref02_Category.j6 kj59 a0 t226)))))) = some r := by rw [if_neg (show ¬ (false = true) by decide)] at H; exact H
                              clear H
                              have H := H1
                              clear H1
                              replace H := Option.bind_eq_some_iff.mp H
                              obtain ⟨t224, A710, H⟩ := H
                              replace H : (if t224 = true then (tremaref02_Category.j6 kj59 a0 t224) else ((tremaref02_in.f a0 8240 8259).bind fun t225 => (if t225 = true then (tremaref02_Category.j6 kj59 a0 t225) else ((tremaref02_in.f a0 12289 12291).bind fun t226 => (tremaref02_Category.j6 kj59 a0 t226))))) = some r := H
                              have A71 := Aside0.mk A710
                              clear A710
                              by_cases c72 : t224 = true
                              ·subst c72
                               have H1 : (tremaref02_Category.j6 kj59 a0 true) = some r := by rw [if_pos rfl] at H; exact H
                               clear H
                               have H := H1
                               clear H1
                               have H' := Aside0.mk H
                               clear H
                               go_wp2_with (first | ((with_reducible refine gate_callee (f := 31) rfl ?_); refine goesL_ (some 74) rfl rfl Tryd.func31 (by kernel_rfl) rfl #[.int .i32 a0, .int .i32 187, .int .i32 187] rfl (by (try simp only [List.map_toArray, List.map_cons, List.map_nil]); first | done | rfl) ?_; (with_reducible refine (tremaref02_in.calls a0 187 187 false _ A65.out).mono ?_); rintro e w' ⟨rfl, ⟨nd, rfl⟩⟩; refine ⟨_, rfl, ?_⟩) | ((with_reducible refine gate_callee (f := 31) rfl ?_); refine goesL_ (some 76) rfl rfl Tryd.func31 (by kernel_rfl) rfl #[.int .i32 a0, .int .i32 191, .int .i32 191] rfl (by (try simp only [List.map_toArray, List.map_cons, List.map_nil]); first | done | rfl) ?_; (with_reducible refine (tremaref02_in.calls a0 191 191 false _ A67.out).mono ?_); rintro e w' ⟨rfl, ⟨nd, rfl⟩⟩; refine ⟨_, rfl, ?_⟩) | ((with_reducible refine gate_callee (f := 31) rfl ?_); refine goesL_ (some 78) rfl rfl Tryd.func31 (by kernel_rfl) rfl #[.int .i32 a0, .int .i32 903, .int .i32 903] rfl (by (try simp only [List.map_toArray, List.map_cons, List.map_nil]); first | done | rfl) ?_; (with_reducible refine (tremaref02_in.calls a0 903 903 false _ A69.out).mono ?_); rintro e w' ⟨rfl, ⟨nd, rfl⟩⟩; refine ⟨_, rfl, ?_⟩) | (go_at_call 31; (with_reducible refine (tremaref02_in.calls a0 8208 8231 true _ A71.out).mono ?_); rintro e w' ⟨rfl, ⟨nd, rfl⟩⟩))
                               go_meet
                               case rel => exact ⟨_, (true), (by first | rfl | (simp; done) | (simp [*]; done)), H', ⟨by have := HJ2.out; have := HJ13.out; have := HJ26.out; have := HJ41.out; have := HJ50.out; have := HJ59.out; first | omega | exact Nat.le_refl _⟩, by repeat (first | exact Drawn0.refl _ | apply Drawn0.step)⟩
                              ·as_aux_lemma =>
                               replace c72 := Bool.eq_false_iff.mpr c72
                               subst c72
                               have H1 : ((tremaref02_in.f a0 8240 8259).bind fun t225 => (if t225 = true then (tremaref02_Category.j6 kj59 a0 t225) else ((tremaref02_in.f a0 12289 12291).bind fun t226 => (tremaref02_Category.j6 kj59 a0 t226)))) = some r := by rw [if_neg (show ¬ (false = true) by decide)] at H; exact H
                               clear H
                               have H := H1
                               clear H1
                               replace H := Option.bind_eq_some_iff.mp H
                               obtain ⟨t225, A730, H⟩ := H
                               replace H : (if t225 = true then (tremaref02_Category.j6 kj59 a0 t225) else ((tremaref02_in.f a0 12289 12291).bind fun t226 => (tremaref02_Category.j6 kj59 a0 t226))) = some r := H
                               have A73 := Aside0.mk A730
                               clear A730
                               by_cases c74 : t225 = true
                               ·subst c74
                                have H1 : (tremaref02_Category.j6 kj59 a0 true) = some r := by rw [if_pos rfl] at H; exact H
                                clear H
                                have H := H1
                                clear H1
                                have H' := Aside0.mk H
                                clear H
                                go_wp2_with (first | ((with_reducible refine gate_callee (f := 31) rfl ?_); refine goesL_ (some 74) rfl rfl Tryd.func31 (by kernel_rfl) rfl #[.int .i32 a0, .int .i32 187, .int .i32 187] rfl (by (try simp only [List.map_toArray, List.map_cons, List.map_nil]); first | done | rfl) ?_; (with_reducible refine (tremaref02_in.calls a0 187 187 false _ A65.out).mono ?_); rintro e w' ⟨rfl, ⟨nd, rfl⟩⟩; refine ⟨_, rfl, ?_⟩) | ((with_reducible refine gate_callee (f := 31) rfl ?_); refine goesL_ (some 76) rfl rfl Tryd.func31 (by kernel_rfl) rfl #[.int .i32 a0, .int .i32 191, .int .i32 191] rfl (by (try simp only [List.map_toArray, List.map_cons, List.map_nil]); first | done | rfl) ?_; (with_reducible refine (tremaref02_in.calls a0 191 191 false _ A67.out).mono ?_); rintro e w' ⟨rfl, ⟨nd, rfl⟩⟩; refine ⟨_, rfl, ?_⟩) | ((with_reducible refine gate_callee (f := 31) rfl ?_); refine goesL_ (some 78) rfl rfl Tryd.func31 (by kernel_rfl) rfl #[.int .i32 a0, .int .i32 903, .int .i32 903] rfl (by (try simp only [List.map_toArray, List.map_cons, List.map_nil]); first | done | rfl) ?_; (with_reducible refine (tremaref02_in.calls a0 903 903 false _ A69.out).mono ?_); rintro e w' ⟨rfl, ⟨nd, rfl⟩⟩; refine ⟨_, rfl, ?_⟩) | (go_at_call 31; (with_reducible refine (tremaref02_in.calls a0 8208 8231 false _ A71.out).mono ?_); rintro e w' ⟨rfl, ⟨nd, rfl⟩⟩) | ((with_reducible refine gate_callee (f := 31) rfl ?_); refine goesL_ (some 84) rfl rfl Tryd.func31 (by kernel_rfl) rfl #[.int .i32 a0, .int .i32 8240, .int .i32 8259] rfl (by (try simp only [List.map_toArray, List.map_cons, List.map_nil]); first | done | rfl) ?_; (with_reducible refine (tremaref02_in.calls a0 8240 8259 true _ A73.out).mono ?_); rintro e w' ⟨rfl, ⟨nd, rfl⟩⟩; refine ⟨_, rfl, ?_⟩))
                                go_meet
                                case rel => exact ⟨_, (true), (by first | rfl | (simp; done) | (simp [*]; done)), H', ⟨by have := HJ2.out; have := HJ13.out; have := HJ26.out; have := HJ41.out; have := HJ50.out; have := HJ59.out; first | omega | exact Nat.le_refl _⟩, by repeat (first | exact Drawn0.refl _ | apply Drawn0.step)⟩
                               ·as_aux_lemma =>
                                replace c74 := Bool.eq_false_iff.mpr c74
                                subst c74
                                have H1 : ((tremaref02_in.f a0 12289 12291).bind fun t226 => (tremaref02_Category.j6 kj59 a0 t226)) = some r := by rw [if_neg (show ¬ (false = true) by decide)] at H; exact H
                                clear H
                                have H := H1
                                clear H1
                                replace H := Option.bind_eq_some_iff.mp H
                                obtain ⟨t226, A750, H⟩ := H
                                replace H : (tremaref02_Category.j6 kj59 a0 t226) = some r := H
                                have A75 := Aside0.mk A750
                                clear A750
                                have H' := Aside0.mk H
                                clear H
                                go_wp2_with (first | ((with_reducible refine gate_callee (f := 31) rfl ?_); refine goesL_ (some 74) rfl rfl Tryd.func31 (by kernel_rfl) rfl #[.int .i32 a0, .int .i32 187, .int .i32 187] rfl (by (try simp only [List.map_toArray, List.map_cons, List.map_nil]); first | done | rfl) ?_; (with_reducible refine (tremaref02_in.calls a0 187 187 false _ A65.out).mono ?_); rintro e w' ⟨rfl, ⟨nd, rfl⟩⟩; refine ⟨_, rfl, ?_⟩) | ((with_reducible refine gate_callee (f := 31) rfl ?_); refine goesL_ (some 76) rfl rfl Tryd.func31 (by kernel_rfl) rfl #[.int .i32 a0, .int .i32 191, .int .i32 191] rfl (by (try simp only [List.map_toArray, List.map_cons, List.map_nil]); first | done | rfl) ?_; (with_reducible refine (tremaref02_in.calls a0 191 191 false _ A67.out).mono ?_); rintro e w' ⟨rfl, ⟨nd, rfl⟩⟩; refine ⟨_, rfl, ?_⟩) | ((with_reducible refine gate_callee (f := 31) rfl ?_); refine goesL_ (some 78) rfl rfl Tryd.func31 (by kernel_rfl) rfl #[.int .i32 a0, .int .i32 903, .int .i32 903] rfl (by (try simp only [List.map_toArray, List.map_cons, List.map_nil]); first | done | rfl) ?_; (with_reducible refine (tremaref02_in.calls a0 903 903 false _ A69.out).mono ?_); rintro e w' ⟨rfl, ⟨nd, rfl⟩⟩; refine ⟨_, rfl, ?_⟩) | (go_at_call 31; (with_reducible refine (tremaref02_in.calls a0 8208 8231 false _ A71.out).mono ?_); rintro e w' ⟨rfl, ⟨nd, rfl⟩⟩) | ((with_reducible refine gate_callee (f := 31) rfl ?_); refine goesL_ (some 84) rfl rfl Tryd.func31 (by kernel_rfl) rfl #[.int .i32 a0, .int .i32 8240, .int .i32 8259] rfl (by (try simp only [List.map_toArray, List.map_cons, List.map_nil]); first | done | rfl) ?_; (with_reducible refine (tremaref02_in.calls a0 8240 8259 false _ A73.out).mono ?_); rintro e w' ⟨rfl, ⟨nd, rfl⟩⟩; refine ⟨_, rfl, ?_⟩) | ((with_reducible refine gate_callee (f := 31) rfl ?_); refine goesL_ (some 86) rfl rfl Tryd.func31 (by kernel_rfl) rfl #[.int .i32 a0, .int .i32 12289, .int .i32 12291] rfl (by (try simp only [List.map_toArray, List.map_cons, List.map_nil]); first | done | rfl) ?_; (with_reducible refine (tremaref02_in.calls a0 12289 12291 t226 _ A75.out).mono ?_); rintro e w' ⟨rfl, ⟨nd, rfl⟩⟩; refine ⟨_, rfl, ?_⟩))
                                go_meet
                                case rel => exact ⟨_, (t226), (by first | rfl | (simp; done) | (simp [*]; done)), H', ⟨by have := HJ2.out; have := HJ13.out; have := HJ26.out; have := HJ41.out; have := HJ50.out; have := HJ59.out; first | omega | exact Nat.le_refl _⟩, by repeat (first | exact Drawn0.refl _ | apply Drawn0.step)⟩
          case rest =>
           clear HC36
           try clear c1
           try clear c2
           try clear p2
           try clear c3
           try clear c4
           try clear c5
           try clear c6
           try clear c7
           try clear c8
           try clear c10
           try clear c12
           try clear c13
           try clear c15
           try clear c17
           try clear c19
           try clear c21
           try clear c23
           try clear c25
           try clear c26
           try clear c28
           try clear c30
           try clear c31
           try clear c32
           try clear c34
           try clear c37
           try clear c39
           try clear c41
           try clear c44
           try clear c46
           try clear c48
           try clear c50
           try clear c53
           try clear c55
           try clear c57
           try clear c59
           try clear c62
           try clear c64
           try clear c66
           try clear c68
           try clear c70
           try clear c72
           try clear c74
           try clear p2
           obtain ⟨kq, x40_35, rfl, HA, HJ35, ⟨mc35, rfl⟩⟩ := hcut
           cases kq with
           | zero => exact absurd HA.out (by simp [tremaref02_Category.j6])
           | succ kj35 =>
            have H := HA.out
            clear HA
            simp only [tremaref02_Category.j6] at H
            by_cases c76 : x40_35 = true
            ·subst c76
             have H1 : (some 4) = some r := by rw [if_pos rfl] at H; exact H
             clear H
             have H := H1
             clear H1
             obtain rfl := Option.some.inj H
             go_wp2
             go_ret
             exact ⟨by first | rfl | (simp; done) | (simp [*]; done), by repeat (first | exact Drawn0.refl _ | apply Drawn0.step)⟩
            ·as_aux_lemma =>
             replace c76 := Bool.eq_false_iff.mpr c76
             subst c76
             have H1 : ((tremaref02_in.f a0 36 36).bind fun t227 => (if t227 = true then (tremaref02_Category.j10 kj35 a0 t227) else ((tremaref02_in.f a0 43 43).bind fun t228 => (if t228 = true then (tremaref02_Category.j10 kj35 a0 t228) else ((tremaref02_in.f a0 60 62).bind fun t229 => (if t229 = true then (tremaref02_Category.j10 kj35 a0 t229) else ((tremaref02_in.f a0 94 94).bind fun t230 => (if t230 = true then (tremaref02_Category.j7 kj35 a0 true) else ((tremaref02_in.f a0 96 96).bind fun t231 => (tremaref02_Category.j7 kj35 a0 t231)))))))))) = some r := by rw [if_neg (show ¬ (false = true) by decide)] at H; exact H
             clear H
             have H := H1
             clear H1
             replace H := Option.bind_eq_some_iff.mp H
             obtain ⟨t227, A770, H⟩ := H
             replace H : (if t227 = true then (tremaref02_Category.j10 kj35 a0 t227) else ((tremaref02_in.f a0 43 43).bind fun t228 => (if t228 = true then (tremaref02_Category.j10 kj35 a0 t228) else ((tremaref02_in.f a0 60 62).bind fun t229 => (if t229 = true then (tremaref02_Category.j10 kj35 a0 t229) else ((tremaref02_in.f a0 94 94).bind fun t230 => (if t230 = true then (tremaref02_Category.j7 kj35 a0 true) else ((tremaref02_in.f a0 96 96).bind fun t231 => (tremaref02_Category.j7 kj35 a0 t231))))))))) = some r := H
             have A77 := Aside0.mk A770
             clear A770
             have HC78 := Aside0.mk H
             clear H
             go_upto_if 87 with (first | ((with_reducible refine gate_callee (f := 31) rfl ?_); refine goesL_ (some 89) rfl rfl Tryd.func31 (by kernel_rfl) rfl #[.int .i32 a0, .int .i32 36, .int .i32 36] rfl (by (try simp only [List.map_toArray, List.map_cons, List.map_nil]); first | done | rfl) ?_; (with_reducible refine (tremaref02_in.calls a0 36 36 t227 _ A77.out).mono ?_); rintro e w' ⟨rfl, ⟨nd, rfl⟩⟩; refine ⟨_, rfl, ?_⟩))
             (try simp only [Act.put, List.setIfInBounds_toArray, List.set_cons_zero, List.set_cons_succ])
             go_cut [87] (fun v87 wc => ∃ (kq : Nat) (x87_77 : Bool), v87 = .bool x87_77 ∧ Aside0 (tremaref02_Category.j10 kq a0 x87_77 = some r) ∧ Aside0 (kq ≤ kj35) ∧ Drawn0 w wc)
             case first =>
              have H := HC78.out
              clear HC78
              by_cases c79 : t227 = true
              ·subst c79
               have H1 : (tremaref02_Category.j10 kj35 a0 true) = some r := by rw [if_pos rfl] at H; exact H
               clear H
               have H := H1
               clear H1
               have H' := Aside0.mk H
               clear H
               go_wp2
               go_meet
               case rel => exact ⟨_, (true), (by first | rfl | (simp; done) | (simp [*]; done)), H', ⟨by have := HJ2.out; have := HJ13.out; have := HJ26.out; have := HJ35.out; first | omega | exact Nat.le_refl _⟩, by repeat (first | exact Drawn0.refl _ | apply Drawn0.step)⟩
              ·as_aux_lemma =>
               replace c79 := Bool.eq_false_iff.mpr c79
               subst c79
               have H1 : ((tremaref02_in.f a0 43 43).bind fun t228 => (if t228 = true then (tremaref02_Category.j10 kj35 a0 t228) else ((tremaref02_in.f a0 60 62).bind fun t229 => (if t229 = true then (tremaref02_Category.j10 kj35 a0 t229) else ((tremaref02_in.f a0 94 94).bind fun t230 => (if t230 = true then (tremaref02_Category.j7 kj35 a0 true) else ((tremaref02_in.f a0 96 96).bind fun t231 => (tremaref02_Category.j7 kj35 a0 t231)))))))) = some r := by rw [if_neg (show ¬ (false = true) by decide)] at H; exact H
               clear H
               have H := H1
               clear H1
               replace H := Option.bind_eq_some_iff.mp H
               obtain ⟨t228, A800, H⟩ := H
               replace H : (if t228 = true then (tremaref02_Category.j10 kj35 a0 t228) else ((tremaref02_in.f a0 60 62).bind fun t229 => (if t229 = true then (tremaref02_Category.j10 kj35 a0 t229) else ((tremaref02_in.f a0 94 94).bind fun t230 => (if t230 = true then (tremaref02_Category.j7 kj35 a0 true) else ((tremaref02_in.f a0 96 96).bind fun t231 => (tremaref02_Category.j7 kj35 a0 t231))))))) = some r := H
               have A80 := Aside0.mk A800
               clear A800
               by_cases c81 : t228 = true
               ·subst c81
                have H1 : (tremaref02_Category.j10 kj35 a0 true) = some r := by rw [if_pos rfl] at H; exact H
                clear H
                have H := H1
                clear H1
                have H' := Aside0.mk H
                clear H
                go_wp2_with (first | ((with_reducible refine gate_callee (f := 31) rfl ?_); refine goesL_ (some 91) rfl rfl Tryd.func31 (by kernel_rfl) rfl #[.int .i32 a0, .int .i32 43, .int .i32 43] rfl (by (try simp only [List.map_toArray, List.map_cons, List.map_nil]); first | done | rfl) ?_; (with_reducible refine (tremaref02_in.calls a0 43 43 true _ A80.out).mono ?_); rintro e w' ⟨rfl, ⟨nd, rfl⟩⟩; refine ⟨_, rfl, ?_⟩))
                go_meet
                case rel => exact ⟨_, (true), (by first | rfl | (simp; done) | (simp [*]; done)), H', ⟨by have := HJ2.out; have := HJ13.out; have := HJ26.out; have := HJ35.out; first | omega | exact Nat.le_refl _⟩, by repeat (first | exact Drawn0.refl _ | apply Drawn0.step)⟩
               ·as_aux_lemma =>
                replace c81 := Bool.eq_false_iff.mpr c81
                subst c81
                have H1 : ((tremaref02_in.f a0 60 62).bind fun t229 => (if t229 = true then (tremaref02_Category.j10 kj35 a0 t229) else ((tremaref02_in.f a0 94 94).bind fun t230 => (if t230 = true then (tremaref02_Category.j7 kj35 a0 true) else ((tremaref02_in.f a0 96 96).bind fun t231 => (tremaref02_Category.j7 kj35 a0 t231)))))) = some r := by rw [if_neg (show ¬ (false = true) by decide)] at H; exact H
                clear H
                have H := H1
                clear H1
                replace H := Option.bind_eq_some_iff.mp H
                obtain ⟨t229, A820, H⟩ := H
                replace H : (if t229 = true then (tremaref02_Category.j10 kj35 a0 t229) else ((tremaref02_in.f a0 94 94).bind fun t230 => (if t230 = true then (tremaref02_Category.j7 kj35 a0 true) else ((tremaref02_in.f a0 96 96).bind fun t231 => (tremaref02_Category.j7 kj35 a0 t231))))) = some r := H
                have A82 := Aside0.mk A820
                clear A820
                by_cases c83 : t229 = true
                ·subst c83
                 have H1 : (tremaref02_Category.j10 kj35 a0 true) = some r := by rw [if_pos rfl] at H; exact H
                 clear H
                 have H := H1
                 clear H1
                 have H' := Aside0.mk H
                 clear H
                 go_wp2_with (first | ((with_reducible refine gate_callee (f := 31) rfl ?_); refine goesL_ (some 91) rfl rfl Tryd.func31 (by kernel_rfl) rfl #[.int .i32 a0, .int .i32 43, .int .i32 43] rfl (by (try simp only [List.map_toArray, List.map_cons, List.map_nil]); first | done | rfl) ?_; (with_reducible refine (tremaref02_in.calls a0 43 43 false _ A80.out).mono ?_); rintro e w' ⟨rfl, ⟨nd, rfl⟩⟩; refine ⟨_, rfl, ?_⟩) | ((with_reducible refine gate_callee (f := 31) rfl ?_); refine goesL_ (some 93) rfl rfl Tryd.func31 (by kernel_rfl) rfl #[.int .i32 a0, .int .i32 60, .int .i32 62] rfl (by (try simp only [List.map_toArray, List.map_cons, List.map_nil]); first | done | rfl) ?_; (with_reducible refine (tremaref02_in.calls a0 60 62 true _ A82.out).mono ?_); rintro e w' ⟨rfl, ⟨nd, rfl⟩⟩; refine ⟨_, rfl, ?_⟩))
                 go_meet
                 case rel => exact ⟨_, (true), (by first | rfl | (simp; done) | (simp [*]; done)), H', ⟨by have := HJ2.out; have := HJ13.out; have := HJ26.out; have := HJ35.out; first | omega | exact Nat.le_refl _⟩, by repeat (first | exact Drawn0.refl _ | apply Drawn0.step)⟩
                ·as_aux_lemma =>
                 replace c83 := Bool.eq_false_iff.mpr c83
                 subst c83
                 have H1 : ((tremaref02_in.f a0 94 94).bind fun t230 => (if t230 = true then (tremaref02_Category.j7 kj35 a0 true) else ((tremaref02_in.f a0 96 96).bind fun t231 => (tremaref02_Category.j7 kj35 a0 t231)))) = some r := by rw [if_neg (show ¬ (false = true) by decide)] at H; exact H
                 clear H
                 have H := H1
                 clear H1
                 have HC84 := Aside0.mk H
                 clear H
                 go_upto_region 36 with (first | ((with_reducible refine gate_callee (f := 31) rfl ?_); refine goesL_ (some 91) rfl rfl Tryd.func31 (by kernel_rfl) rfl #[.int .i32 a0, .int .i32 43, .int .i32 43] rfl (by (try simp only [List.map_toArray, List.map_cons, List.map_nil]); first | done | rfl) ?_; (with_reducible refine (tremaref02_in.calls a0 43 43 false _ A80.out).mono ?_); rintro e w' ⟨rfl, ⟨nd, rfl⟩⟩; refine ⟨_, rfl, ?_⟩) | ((with_reducible refine gate_callee (f := 31) rfl ?_); refine goesL_ (some 93) rfl rfl Tryd.func31 (by kernel_rfl) rfl #[.int .i32 a0, .int .i32 60, .int .i32 62] rfl (by (try simp only [List.map_toArray, List.map_cons, List.map_nil]); first | done | rfl) ?_; (with_reducible refine (tremaref02_in.calls a0 60 62 false _ A82.out).mono ?_); rintro e w' ⟨rfl, ⟨nd, rfl⟩⟩; refine ⟨_, rfl, ?_⟩))
                 (try simp only [Act.put, List.setIfInBounds_toArray, List.set_cons_zero, List.set_cons_succ])
                 go_cut [87] (fun v87 wc => ∃ (kq : Nat) (x87_83 : Bool), v87 = .bool x87_83 ∧ Aside0 (tremaref02_Category.j7 kq a0 x87_83 = some r) ∧ Aside0 (kq ≤ kj35) ∧ Drawn0 w wc)
                 case first =>
                  have H := HC84.out
                  clear HC84
                  replace H := Option.bind_eq_some_iff.mp H
                  obtain ⟨t230, A850, H⟩ := H
                  replace H : (if t230 = true then (tremaref02_Category.j7 kj35 a0 true) else ((tremaref02_in.f a0 96 96).bind fun t231 => (tremaref02_Category.j7 kj35 a0 t231))) = some r := H
                  have A85 := Aside0.mk A850
                  clear A850
                  by_cases c86 : t230 = true
                  ·subst c86
                   have H1 : (tremaref02_Category.j7 kj35 a0 true) = some r := by rw [if_pos rfl] at H; exact H
                   clear H
                   have H := H1
                   clear H1
                   have H' := Aside0.mk H
                   clear H
                   go_wp2_with (first | ((with_reducible refine gate_callee (f := 31) rfl ?_); refine goesL_ (some 95) rfl rfl Tryd.func31 (by kernel_rfl) rfl #[.int .i32 a0, .int .i32 94, .int .i32 94] rfl (by (try simp only [List.map_toArray, List.map_cons, List.map_nil]); first | done | rfl) ?_; (with_reducible refine (tremaref02_in.calls a0 94 94 true _ A85.out).mono ?_); rintro e w' ⟨rfl, ⟨nd, rfl⟩⟩; refine ⟨_, rfl, ?_⟩))
                   go_meet
                   case rel => exact ⟨_, (true), (by first | rfl | (simp; done) | (simp [*]; done)), H', ⟨by have := HJ2.out; have := HJ13.out; have := HJ26.out; have := HJ35.out; first | omega | exact Nat.le_refl _⟩, by repeat (first | exact Drawn0.refl _ | apply Drawn0.step)⟩
                  ·as_aux_lemma =>
                   replace c86 := Bool.eq_false_iff.mpr c86
                   subst c86
                   have H1 : ((tremaref02_in.f a0 96 96).bind fun t231 => (tremaref02_Category.j7 kj35 a0 t231)) = some r := by rw [if_neg (show ¬ (false = true) by decide)] at H; exact H
                   clear H
                   have H := H1
                   clear H1
                   replace H := Option.bind_eq_some_iff.mp H
                   obtain ⟨t231, A870, H⟩ := H
                   replace H : (tremaref02_Category.j7 kj35 a0 t231) = some r := H
                   have A87 := Aside0.mk A870
                   clear A870
                   have H' := Aside0.mk H
                   clear H
                   go_wp2_with (first | ((with_reducible refine gate_callee (f := 31) rfl ?_); refine goesL_ (some 95) rfl rfl Tryd.func31 (by kernel_rfl) rfl #[.int .i32 a0, .int .i32 94, .int .i32 94] rfl (by (try simp only [List.map_toArray, List.map_cons, List.map_nil]); first | done | rfl) ?_; (with_reducible refine (tremaref02_in.calls a0 94 94 false _ A85.out).mono ?_); rintro e w' ⟨rfl, ⟨nd, rfl⟩⟩; refine ⟨_, rfl, ?_⟩) | (go_at_call 31; (with_reducible refine (tremaref02_in.calls a0 96 96 t231 _ A87.out).mono ?_); rintro e w' ⟨rfl, ⟨nd, rfl⟩⟩))
                   go_meet
                   case rel => exact ⟨_, (t231), (by first | rfl | (simp; done) | (simp [*]; done)), H', ⟨by have := HJ2.out; have := HJ13.out; have := HJ26.out; have := HJ35.out; first | omega | exact Nat.le_refl _⟩, by repeat (first | exact Drawn0.refl _ | apply Drawn0.step)⟩
                 case rest =>
                  clear HC84
                  try clear c1
                  try clear c2
                  try clear p2
                  try clear c3
                  try clear c4
                  try clear c5
                  try clear c6
                  try clear c7
                  try clear c8
                  try clear c10
                  try clear c12
                  try clear c13
                  try clear c15
                  try clear c17
                  try clear c19
                  try clear c21
                  try clear c23
                  try clear c25
                  try clear c26
                  try clear c28
                  try clear c30
                  try clear c31
                  try clear c32
                  try clear c34
                  try clear c35
                  try clear c37
                  try clear c39
                  try clear c41
                  try clear c44
                  try clear c46
                  try clear c48
                  try clear c50
                  try clear c53
                  try clear c55
                  try clear c57
                  try clear c59
                  try clear c62
                  try clear c64
                  try clear c66
                  try clear c68
                  try clear c70
                  try clear c72
                  try clear c74
                  try clear c76
                  try clear c79
                  try clear c81
                  try clear c83
                  try clear c86
                  try clear p2
                  obtain ⟨kq, x87_83, rfl, HA, HJ83, ⟨mc83, rfl⟩⟩ := hcut
                  cases kq with
                  | zero => exact absurd HA.out (by simp [tremaref02_Category.j7])
                  | succ kj83 =>
                   have H := HA.out
                   clear HA
                   simp only [tremaref02_Category.j7] at H
                   by_cases c88 : x87_83 = true
                   ·subst c88
                    have H1 : (tremaref02_Category.j10 kj83 a0 true) = some r := by rw [if_pos rfl] at H; exact H
                    clear H
                    have H := H1
                    clear H1
                    have H' := Aside0.mk H
                    clear H
                    go_wp2
                    go_meet
                    case rel => exact ⟨_, (true), (by first | rfl | (simp; done) | (simp [*]; done)), H', ⟨by have := HJ2.out; have := HJ13.out; have := HJ26.out; have := HJ35.out; have := HJ83.out; first | omega | exact Nat.le_refl _⟩, by repeat (first | exact Drawn0.refl _ | apply Drawn0.step)⟩
                   ·as_aux_lemma =>
                    replace c88 := Bool.eq_false_iff.mpr c88
                    subst c88
                    have H1 : ((tremaref02_in.f a0 124 124).bind fun t232 => (if t232 = true then (tremaref02_Category.j10 kj83 a0 t232) else ((tremaref02_in.f a0 126 126).bind fun t233 => (if t233 = true then (tremaref02_Category.j10 kj83 a0 t233) else ((tremaref02_in.f a0 162 166).bind fun t234 => (if t234 = true then (tremaref02_Category.j8 kj83 a0 true) else ((tremaref02_in.f a0 168 169).bind fun t235 => (tremaref02_Category.j8 kj83 a0 t235)))))))) = some r := by rw [if_neg (show ¬ (false = true) by decide)] at H; exact H
                    clear H
                    have H := H1
                    clear H1
                    replace H := Option.bind_eq_some_iff.mp H
                    obtain ⟨t232, A890, H⟩ := H
                    replace H : (if t232 = true then (tremaref02_Category.j10 kj83 a0 t232) else ((tremaref02_in.f a0 126 126).bind fun t233 => (if t233 = true then (tremaref02_Category.j10 kj83 a0 t233) else ((tremaref02_in.f a0 162 166).bind fun t234 => (if t234 = true then (tremaref02_Category.j8 kj83 a0 true) else ((tremaref02_in.f a0 168 169).bind fun t235 => (tremaref02_Category.j8 kj83 a0 t235))))))) = some r := H
                    have A89 := Aside0.mk A890
                    clear A890
                    by_cases c90 : t232 = true
                    ·subst c90
                     have H1 : (tremaref02_Category.j10 kj83 a0 true) = some r := by rw [if_pos rfl] at H; exact H
                     clear H
                     have H := H1
                     clear H1
                     have H' := Aside0.mk H
                     clear H
                     go_wp2_with (first | ((with_reducible refine gate_callee (f := 31) rfl ?_); refine goesL_ (some 101) rfl rfl Tryd.func31 (by kernel_rfl) rfl #[.int .i32 a0, .int .i32 124, .int .i32 124] rfl (by (try simp only [List.map_toArray, List.map_cons, List.map_nil]); first | done | rfl) ?_; (with_reducible refine (tremaref02_in.calls a0 124 124 true _ A89.out).mono ?_); rintro e w' ⟨rfl, ⟨nd, rfl⟩⟩; refine ⟨_, rfl, ?_⟩))
                     go_meet
                     case rel => exact ⟨_, (true), (by first | rfl | (simp; done) | (simp [*]; done)), H', ⟨by have := HJ2.out; have := HJ13.out; have := HJ26.out; have := HJ35.out; have := HJ83.out; first | omega | exact Nat.le_refl _⟩, by repeat (first | exact Drawn0.refl _ | apply Drawn0.step)⟩
                    ·as_aux_lemma =>
                     replace c90 := Bool.eq_false_iff.mpr c90
                     subst c90
                     have H1 : ((tremaref02_in.f a0 126 126).bind fun t233 => (if t233 = true then (tremaref02_Category.j10 kj83 a0 t233) else ((tremaref02_in.f a0 162 166).bind fun t234 => (if t234 = true then (tremaref02_Category.j8 kj83 a0 true) else ((tremaref02_in.f a0 168 169).bind fun t235 => (tremaref02_Category.j8 kj83 a0 t235)))))) = some r := by rw [if_neg (show ¬ (false = true) by decide)] at H; exact H
                     clear H
                     have H := H1
                     clear H1
                     replace H := Option.bind_eq_some_iff.mp H
                     obtain ⟨t233, A910, H⟩ := H
                     replace H : (if t233 = true then (tremaref02_Category.j10 kj83 a0 t233) else ((tremaref02_in.f a0 162 166).bind fun t234 => (if t234 = true then (tremaref02_Category.j8 kj83 a0 true) else ((tremaref02_in.f a0 168 169).bind fun t235 => (tremaref02_Category.j8 kj83 a0 t235))))) = some r := H
                     have A91 := Aside0.mk A910
                     clear A910
                     by_cases c92 : t233 = true
                     ·subst c92
                      have H1 : (tremaref02_Category.j10 kj83 a0 true) = some r := by rw [if_pos rfl] at H; exact H
                      clear H
                      have H := H1
                      clear H1
                      have H' := Aside0.mk H
                      clear H
                      go_wp2_with (first | ((with_reducible refine gate_callee (f := 31) rfl ?_); refine goesL_ (some 101) rfl rfl Tryd.func31 (by kernel_rfl) rfl #[.int .i32 a0, .int .i32 124, .int .i32 124] rfl (by (try simp only [List.map_toArray, List.map_cons, List.map_nil]); first | done | rfl) ?_; (with_reducible refine (tremaref02_in.calls a0 124 124 false _ A89.out).mono ?_); rintro e w' ⟨rfl, ⟨nd, rfl⟩⟩; refine ⟨_, rfl, ?_⟩) | ((with_reducible refine gate_callee (f := 31) rfl ?_); refine goesL_ (some 103) rfl rfl Tryd.func31 (by kernel_rfl) rfl #[.int .i32 a0, .int .i32 126, .int .i32 126] rfl (by (try simp only [List.map_toArray, List.map_cons, List.map_nil]); first | done | rfl) ?_; (with_reducible refine (tremaref02_in.calls a0 126 126 true _ A91.out).mono ?_); rintro e w' ⟨rfl, ⟨nd, rfl⟩⟩; refine ⟨_, rfl, ?_⟩))
                      go_meet
                      case rel => exact ⟨_, (true), (by first | rfl | (simp; done) | (simp [*]; done)), H', ⟨by have := HJ2.out; have := HJ13.out; have := HJ26.out; have := HJ35.out; have := HJ83.out; first | omega | exact Nat.le_refl _⟩, by repeat (first | exact Drawn0.refl _ | apply Drawn0.step)⟩
                     ·as_aux_lemma =>
                      replace c92 := Bool.eq_false_iff.mpr c92
                      subst c92
                      have H1 : ((tremaref02_in.f a0 162 166).bind fun t234 => (if t234 = true then (tremaref02_Category.j8 kj83 a0 true) else ((tremaref02_in.f a0 168 169).bind fun t235 => (tremaref02_Category.j8 kj83 a0 t235)))) = some r := by rw [if_neg (show ¬ (false = true) by decide)] at H; exact H
                      clear H
                      have H := H1
                      clear H1
                      have HC93 := Aside0.mk H
                      clear H
                      go_upto_region 39 with (first | ((with_reducible refine gate_callee (f := 31) rfl ?_); refine goesL_ (some 101) rfl rfl Tryd.func31 (by kernel_rfl) rfl #[.int .i32 a0, .int .i32 124, .int .i32 124] rfl (by (try simp only [List.map_toArray, List.map_cons, List.map_nil]); first | done | rfl) ?_; (with_reducible refine (tremaref02_in.calls a0 124 124 false _ A89.out).mono ?_); rintro e w' ⟨rfl, ⟨nd, rfl⟩⟩; refine ⟨_, rfl, ?_⟩) | ((with_reducible refine gate_callee (f := 31) rfl ?_); refine goesL_ (some 103) rfl rfl Tryd.func31 (by kernel_rfl) rfl #[.int .i32 a0, .int .i32 126, .int .i32 126] rfl (by (try simp only [List.map_toArray, List.map_cons, List.map_nil]); first | done | rfl) ?_; (with_reducible refine (tremaref02_in.calls a0 126 126 false _ A91.out).mono ?_); rintro e w' ⟨rfl, ⟨nd, rfl⟩⟩; refine ⟨_, rfl, ?_⟩))
                      (try simp only [Act.put, List.setIfInBounds_toArray, List.set_cons_zero, List.set_cons_succ])
                      go_cut [87] (fun v87 wc => ∃ (kq : Nat) (x87_92 : Bool), v87 = .bool x87_92 ∧ Aside0 (tremaref02_Category.j8 kq a0 x87_92 = some r) ∧ Aside0 (kq ≤ kj83) ∧ Drawn0 w wc)
                      case first =>
                       have H := HC93.out
                       clear HC93
                       replace H := Option.bind_eq_some_iff.mp H
                       obtain ⟨t234, A940, H⟩ := H
                       replace H : (if t234 = true then (tremaref02_Category.j8 kj83 a0 true) else ((tremaref02_in.f a0 168 169).bind fun t235 => (tremaref02_Category.j8 kj83 a0 t235))) = some r := H
                       have A94 := Aside0.mk A940
                       clear A940
                       by_cases c95 : t234 = true
                       ·subst c95
                        have H1 : (tremaref02_Category.j8 kj83 a0 true) = some r := by rw [if_pos rfl] at H; exact H
                        clear H
                        have H := H1
                        clear H1
                        have H' := Aside0.mk H
                        clear H
                        go_wp2_with (first | ((with_reducible refine gate_callee (f := 31) rfl ?_); refine goesL_ (some 105) rfl rfl Tryd.func31 (by kernel_rfl) rfl #[.int .i32 a0, .int .i32 162, .int .i32 166] rfl (by (try simp only [List.map_toArray, List.map_cons, List.map_nil]); first | done | rfl) ?_; (with_reducible refine (tremaref02_in.calls a0 162 166 true _ A94.out).mono ?_); rintro e w' ⟨rfl, ⟨nd, rfl⟩⟩; refine ⟨_, rfl, ?_⟩))
                        go_meet
                        case rel => exact ⟨_, (true), (by first | rfl | (simp; done) | (simp [*]; done)), H', ⟨by have := HJ2.out; have := HJ13.out; have := HJ26.out; have := HJ35.out; have := HJ83.out; first | omega | exact Nat.le_refl _⟩, by repeat (first | exact Drawn0.refl _ | apply Drawn0.step)⟩
                       ·as_aux_lemma =>
                        replace c95 := Bool.eq_false_iff.mpr c95
                        subst c95
                        have H1 : ((tremaref02_in.f a0 168 169).bind fun t235 => (tremaref02_Category.j8 kj83 a0 t235)) = some r := by rw [if_neg (show ¬ (false = true) by decide)] at H; exact H
                        clear H
                        have H := H1
                        clear H1
                        replace H := Option.bind_eq_some_iff.mp H
                        obtain ⟨t235, A960, H⟩ := H
                        replace H : (tremaref02_Category.j8 kj83 a0 t235) = some r := H
                        have A96 := Aside0.mk A960
                        clear A960
                        have H' := Aside0.mk H
                        clear H
                        go_wp2_with (first | ((with_reducible refine gate_callee (f := 31) rfl ?_); refine goesL_ (some 105) rfl rfl Tryd.func31 (by kernel_rfl) rfl #[.int .i32 a0, .int .i32 162, .int .i32 166] rfl (by (try simp only [List.map_toArray, List.map_cons, List.map_nil]); first | done | rfl) ?_; (with_reducible refine (tremaref02_in.calls a0 162 166 false _ A94.out).mono ?_); rintro e w' ⟨rfl, ⟨nd, rfl⟩⟩; refine ⟨_, rfl, ?_⟩) | (go_at_call 31; (with_reducible refine (tremaref02_in.calls a0 168 169 t235 _ A96.out).mono ?_); rintro e w' ⟨rfl, ⟨nd, rfl⟩⟩))
                        go_meet
                        case rel => exact ⟨_, (t235), (by first | rfl | (simp; done) | (simp [*]; done)), H', ⟨by have := HJ2.out; have := HJ13.out; have := HJ26.out; have := HJ35.out; have := HJ83.out; first | omega | exact Nat.le_refl _⟩, by repeat (first | exact Drawn0.refl _ | apply Drawn0.step)⟩
                      case rest =>
                       clear HC93
                       try clear c1
                       try clear c2
                       try clear p2
                       try clear c3
                       try clear c4
                       try clear c5
                       try clear c6
                       try clear c7
                       try clear c8
                       try clear c9
                       try clear c10
                       try clear c12
                       try clear c13
                       try clear c15
                       try clear c17
                       try clear c19
                       try clear c21
                       try clear c23
                       try clear c25
                       try clear c26
                       try clear c28
                       try clear c30
                       try clear c31
                       try clear c32
                       try clear c34
                       try clear c35
                       try clear c37
                       try clear c39
                       try clear c41
                       try clear c44
                       try clear c46
                       try clear c48
                       try clear c50
                       try clear c53
                       try clear c55
                       try clear c57
                       try clear c59
                       try clear c62
                       try clear c64
                       try clear c66
                       try clear c68
                       try clear c70
                       try clear c72
                       try clear c74
                       try clear c76
                       try clear c79
                       try clear c81
                       try clear c83
                       try clear c86
                       try clear c88
                       try clear c90
                       try clear c92
                       try clear c95
                       try clear p2
                       obtain ⟨kq, x87_92, rfl, HA, HJ92, ⟨mc92, rfl⟩⟩ := hcut
                       cases kq with
                       | zero => exact absurd HA.out (by simp [tremaref02_Category.j8])
                       | succ kj92 =>
                        have H := HA.out
                        clear HA
                        simp only [tremaref02_Category.j8] at H
                        by_cases c97 : x87_92 = true
                        ·subst c97
                         have H1 : (tremaref02_Category.j10 kj92 a0 true) = some r := by rw [if_pos rfl] at H; exact H
                         clear H
                         have H := H1
                         clear H1
                         have H' := Aside0.mk H
                         clear H
                         go_wp2
                         go_meet
                         case rel => exact ⟨_, (true), (by first | rfl | (simp; done) | (simp [*]; done)), H', ⟨by have := HJ2.out; have := HJ13.out; have := HJ26.out; have := HJ35.out; have := HJ83.out; have := HJ92.out; first | omega | exact Nat.le_refl _⟩, by repeat (first | exact Drawn0.refl _ | apply Drawn0.step)⟩
                        ·as_aux_lemma =>
                         replace c97 := Bool.eq_false_iff.mpr c97
                         subst c97
                         have H1 : ((tremaref02_in.f a0 172 172).bind fun t236 => (if t236 = true then (tremaref02_Category.j10 kj92 a0 t236) else ((tremaref02_in.f a0 174 177).bind fun t237 => (if t237 = true then (tremaref02_Category.j10 kj92 a0 t237) else ((tremaref02_in.f a0 180 180).bind fun t238 => (if t238 = true then (tremaref02_Category.j9 kj92 a0 true) else ((tremaref02_in.f a0 184 184).bind fun t239 => (tremaref02_Category.j9 kj92 a0 t239)))))))) = some r := by rw [if_neg (show ¬ (false = true) by decide)] at H; exact H
                         clear H
                         have H := H1
                         clear H1
                         replace H := Option.bind_eq_some_iff.mp H
                         obtain ⟨t236, A980, H⟩ := H
                         replace H : (if t236 = true then (tremaref02_Category.j10 kj92 a0 t236) else ((tremaref02_in.f a0 174 177).bind fun t237 => (if t237 = true then (tremaref02_Category.j10 kj92 a0 t237) else ((tremaref02_in.f a0 180 180).bind fun t238 => (if t238 = true then (tremaref02_Category.j9 kj92 a0 true) else ((tremaref02_in.f a0 184 184).bind fun t239 => (tremaref02_Category.j9 kj92 a0 t239))))))) = some r := H
                         have A98 := Aside0.mk A980
                         clear A980
                         by_cases c99 : t236 = true
                         ·subst c99
                          have H1 : (tremaref02_Category.j10 kj92 a0 true) = some r := by rw [if_pos rfl] at H; exact H
                          clear H
                          have H := H1
                          clear H1
                          have H' := Aside0.mk H
                          clear H
                          go_wp2_with (first | ((with_reducible refine gate_callee (f := 31) rfl ?_); refine goesL_ (some 111) rfl rfl Tryd.func31 (by kernel_rfl) rfl #[.int .i32 a0, .int .i32 172, .int .i32 172] rfl (by (try simp only [List.map_toArray, List.map_cons, List.map_nil]); first | done | rfl) ?_; (with_reducible refine (tremaref02_in.calls a0 172 172 true _ A98.out).mono ?_); rintro e w' ⟨rfl, ⟨nd, rfl⟩⟩; refine ⟨_, rfl, ?_⟩))
                          go_meet
                          case rel => exact ⟨_, (true), (by first | rfl | (simp; done) | (simp [*]; done)), H', ⟨by have := HJ2.out; have := HJ13.out; have := HJ26.out; have := HJ35.out; have := HJ83.out; have := HJ92.out; first | omega | exact Nat.le_refl _⟩, by repeat (first | exact Drawn0.refl _ | apply Drawn0.step)⟩
                         ·as_aux_lemma =>
                          replace c99 := Bool.eq_false_iff.mpr c99
                          subst c99
                          have H1 : ((tremaref02_in.f a0 174 177).bind fun t237 => (if t237 = true then (tremaref02_Category.j10 kj92 a0 t237) else ((tremaref02_in.f a0 180 180).bind fun t238 => (if t238 = true then (tremaref02_Category.j9 kj92 a0 true) else ((tremaref02_in.f a0 184 184).bind fun t239 => (tremaref02_Category.j9 kj92 a0 t239)))))) = some r := by rw [if_neg (show ¬ (false = true) by decide)] at H; exact H
                          clear H
                          have H := H1
                          clear H1
                          replace H := Option.bind_eq_some_iff.mp H
                          obtain ⟨t237, A1000, H⟩ := H
                          replace H : (if t237 = true then (tremaref02_Category.j10 kj92 a0 t237) else ((tremaref02_in.f a0 180 180).bind fun t238 => (if t238 = true then (tremaref02_Category.j9 kj92 a0 true) else ((tremaref02_in.f a0 184 184).bind fun t239 => (tremaref02_Category.j9 kj92 a0 t239))))) = some r := H
                          have A100 := Aside0.mk A1000
                          clear A1000
                          by_cases c101 : t237 = true
                          ·subst c101
                           have H1 : (tremaref02_Category.j10 kj92 a0 true) = some r := by rw [if_pos rfl] at H; exact H
                           clear H
                           have H := H1
                           clear H1
                           have H' := Aside0.mk H
                           clear H
                           go_wp2_with (first | ((with_reducible refine gate_callee (f := 31) rfl ?_); refine goesL_ (some 111) rfl rfl Tryd.func31 (by kernel_rfl) rfl #[.int .i32 a0, .int .i32 172, .int .i32 172] rfl (by (try simp only [List.map_toArray, List.map_cons, List.map_nil]); first | done | rfl) ?_; (with_reducible refine (tremaref02_in.calls a0 172 172 false _ A98.out).mono ?_); rintro e w' ⟨rfl, ⟨nd, rfl⟩⟩; refine ⟨_, rfl, ?_⟩) | ((with_reducible refine gate_callee (f := 31) rfl ?_); refine goesL_ (some 113) rfl rfl Tryd.func31 (by kernel_rfl) rfl #[.int .i32 a0, .int .i32 174, .int .i32 177] rfl (by (try simp only [List.map_toArray, List.map_cons, List.map_nil]); first | done | rfl) ?_; (with_reducible refine (tremaref02_in.calls a0 174 177 true _ A100.out).mono ?_); rintro e w' ⟨rfl, ⟨nd, rfl⟩⟩; refine ⟨_, rfl, ?_⟩))
                           go_meet
                           case rel => exact ⟨_, (true), (by first | rfl | (simp; done) | (simp [*]; done)), H', ⟨by have := HJ2.out; have := HJ13.out; have := HJ26.out; have := HJ35.out; have := HJ83.out; have := HJ92.out; first | omega | exact Nat.le_refl _⟩, by repeat (first | exact Drawn0.refl _ | apply Drawn0.step)⟩
                          ·as_aux_lemma =>
                           replace c101 := Bool.eq_false_iff.mpr c101
                           subst c101
                           have H1 : ((tremaref02_in.f a0 180 180).bind fun t238 => (if t238 = true then (tremaref02_Category.j9 kj92 a0 true) else ((tremaref02_in.f a0 184 184).bind fun t239 => (tremaref02_Category.j9 kj92 a0 t239)))) = some r := by rw [if_neg (show ¬ (false = true) by decide)] at H; exact H
                           clear H
                           have H := H1
                           clear H1
                           have HC102 := Aside0.mk H
                           clear H
                           go_upto_region 42 with (first | ((with_reducible refine gate_callee (f := 31) rfl ?_); refine goesL_ (some 111) rfl rfl Tryd.func31 (by kernel_rfl) rfl #[.int .i32 a0, .int .i32 172, .int .i32 172] rfl (by (try simp only [List.map_toArray, List.map_cons, List.map_nil]); first | done | rfl) ?_; (with_reducible refine (tremaref02_in.calls a0 172 172 false _ A98.out).mono ?_); rintro e w' ⟨rfl, ⟨nd, rfl⟩⟩; refine ⟨_, rfl, ?_⟩) | ((with_reducible refine gate_callee (f := 31) rfl ?_); refine goesL_ (some 113) rfl rfl Tryd.func31 (by kernel_rfl) rfl #[.int .i32 a0, .int .i32 174, .int .i32 177] rfl (by (try simp only [List.map_toArray, List.map_cons, List.map_nil]); first | done | rfl) ?_; (with_reducible refine (tremaref02_in.calls a0 174 177 false _ A100.out).mono ?_); rintro e w' ⟨rfl, ⟨nd, rfl⟩⟩; refine ⟨_, rfl, ?_⟩))
                           (try simp only [Act.put, List.setIfInBounds_toArray, List.set_cons_zero, List.set_cons_succ])
                           go_cut [87] (fun v87 wc => ∃ (kq : Nat) (x87_101 : Bool), v87 = .bool x87_101 ∧ Aside0 (tremaref02_Category.j9 kq a0 x87_101 = some r) ∧ Aside0 (kq ≤ kj92) ∧ Drawn0 w wc)
                           case first =>
                            have H := HC102.out
                            clear HC102
                            replace H := Option.bind_eq_some_iff.mp H
                            obtain ⟨t238, A1030, H⟩ := H
                            replace H : (if t238 = true then (tremaref02_Category.j9 kj92 a0 true) else ((tremaref02_in.f a0 184 184).bind fun t239 => (tremaref02_Category.j9 kj92 a0 t239))) = some r := H
                            have A103 := Aside0.mk A1030
                            clear A1030
                            by_cases c104 : t238 = true
                            ·subst c104
                             have H1 : (tremaref02_Category.j9 kj92 a0 true) = some r := by rw [if_pos rfl] at H; exact H
                             clear H
                             have H := H1
                             clear H1
                             have H' := Aside0.mk H
                             clear H
                             go_wp2_with (first | ((with_reducible refine gate_callee (f := 31) rfl ?_); refine goesL_ (some 115) rfl rfl Tryd.func31 (by kernel_rfl) rfl #[.int .i32 a0, .int .i32 180, .int .i32 180] rfl (by (try simp only [List.map_toArray, List.map_cons, List.map_nil]); first | done | rfl) ?_; (with_reducible refine (tremaref02_in.calls a0 180 180 true _ A103.out).mono ?_); rintro e w' ⟨rfl, ⟨nd, rfl⟩⟩; refine ⟨_, rfl, ?_⟩))
                             go_meet
                             case rel => exact ⟨_, (true), (by first | rfl | (simp; done) | (simp [*]; done)), H', ⟨by have := HJ2.out; have := HJ13.out; have := HJ26.out; have := HJ35.out; have := HJ83.out; have := HJ92.out; first | omega | exact Nat.le_refl _⟩, by repeat (first | exact Drawn0.refl _ | apply Drawn0.step)⟩
                            ·as_aux_lemma =>
                             replace c104 := Bool.eq_false_iff.mpr c104
                             subst c104
                             have H1 : ((tremaref02_in.f a0 184 184).bind fun t239 => (tremaref02_Category.j9 kj92 a0 t239)) = some r := by rw [if_neg (show ¬ (false = true) by decide)] at H; exact H
                             clear H
                             have H := H1
                             clear H1
                             replace H := Option.bind_eq_some_iff.mp H
                             obtain ⟨t239, A1050, H⟩ := H
                             replace H : (tremaref02_Category.j9 kj92 a0 t239) = some r := H
                             have A105 := Aside0.mk A1050
                             clear A1050
                             have H' := Aside0.mk H
                             clear H
                             go_wp2_with (first | ((with_reducible refine gate_callee (f := 31) rfl ?_); refine goesL_ (some 115) rfl rfl Tryd.func31 (by kernel_rfl) rfl #[.int .i32 a0, .int .i32 180, .int .i32 180] rfl (by (try simp only [List.map_toArray, List.map_cons, List.map_nil]); first | done | rfl) ?_; (with_reducible refine (tremaref02_in.calls a0 180 180 false _ A103.out).mono ?_); rintro e w' ⟨rfl, ⟨nd, rfl⟩⟩; refine ⟨_, rfl, ?_⟩) | (go_at_call 31; (with_reducible refine (tremaref02_in.calls a0 184 184 t239 _ A105.out).mono ?_); rintro e w' ⟨rfl, ⟨nd, rfl⟩⟩))
                             go_meet
                             case rel => exact ⟨_, (t239), (by first | rfl | (simp; done) | (simp [*]; done)), H', ⟨by have := HJ2.out; have := HJ13.out; have := HJ26.out; have := HJ35.out; have := HJ83.out; have := HJ92.out; first | omega | exact Nat.le_refl _⟩, by repeat (first | exact Drawn0.refl _ | apply Drawn0.step)⟩
                           case rest =>
                            clear HC102
                            try clear c1
                            try clear c2
                            try clear p2
                            try clear c3
                            try clear c4
                            try clear c5
                            try clear c6
                            try clear c7
                            try clear c8
                            try clear c9
                            try clear c10
                            try clear c12
                            try clear c13
                            try clear c15
                            try clear c17
                            try clear c19
                            try clear c21
                            try clear c23
                            try clear c25
                            try clear c26
                            try clear c28
                            try clear c30
                            try clear c31
                            try clear c32
                            try clear c34
                            try clear c35
                            try clear c37
                            try clear c39
                            try clear c41
                            try clear c44
                            try clear c46
                            try clear c48
                            try clear c50
                            try clear c53
                            try clear c55
                            try clear c57
                            try clear c59
                            try clear c62
                            try clear c64
                            try clear c66
                            try clear c68
                            try clear c70
                            try clear c72
                            try clear c74
                            try clear c76
                            try clear c79
                            try clear c81
                            try clear c83
                            try clear c86
                            try clear c88
                            try clear c90
                            try clear c92
                            try clear c95
                            try clear c97
                            try clear c99
                            try clear c101
                            try clear c104
                            try clear p2
                            obtain ⟨kq, x87_101, rfl, HA, HJ101, ⟨mc101, rfl⟩⟩ := hcut
                            cases kq with
                            | zero => exact absurd HA.out (by simp [tremaref02_Category.j9])
                            | succ kj101 =>
                             have H := HA.out
                             clear HA
                             simp only [tremaref02_Category.j9] at H
                             by_cases c106 : x87_101 = true
                             ·subst c106
                              have H1 : (tremaref02_Category.j10 kj101 a0 true) = some r := by rw [if_pos rfl] at H; exact H
                              clear H
                              have H := H1
                              clear H1
                              have H' := Aside0.mk H
                              clear H
                              go_wp2
                              go_meet
                              case rel => exact ⟨_, (true), (by first | rfl | (simp; done) | (simp [*]; done)), H', ⟨by have := HJ2.out; have := HJ13.out; have := HJ26.out; have := HJ35.out; have := HJ83.out; have := HJ92.out; have := HJ101.out; first | omega | exact Nat.le_refl _⟩, by repeat (first | exact Drawn0.refl _ | apply Drawn0.step)⟩
                             ·as_aux_lemma =>
                              replace c106 := Bool.eq_false_iff.mpr c106
                              subst c106
                              have H1 : ((tremaref02_in.f a0 215 215).bind fun t240 => (if t240 = true then (tremaref02_Category.j10 kj101 a0 t240) else ((tremaref02_in.f a0 247 247).bind fun t241 => (if t241 = true then (tremaref02_Category.j10 kj101 a0 t241) else ((tremaref02_in.f a0 8352 8384).bind fun t242 => (if t242 = true then (tremaref02_Category.j10 kj101 a0 true) else ((tremaref02_in.f a0 8592 8959).bind fun t243 => (if t243 = true then (tremaref02_Category.j10 kj101 a0 t243) else ((tremaref02_in.f a0 65533 65533).bind fun t244 => (if t244 = true then (tremaref02_Category.j10 kj101 a0 t244) else ((tremaref02_in.f a0 128512 128591).bind fun t245 => (tremaref02_Category.j10 kj101 a0 t245)))))))))))) = some r := by rw [if_neg (show ¬ (false = true) by decide)] at H; exact H
                              clear H
                              have H := H1
                              clear H1
                              replace H := Option.bind_eq_some_iff.mp H
                              obtain ⟨t240, A1070, H⟩ := H
                              replace H : (if t240 = true then (tremaref02_Category.j10 kj101 a0 t240) else ((tremaref02_in.f a0 247 247).bind fun t241 => (if t241 = true then (tremaref02_Category.j10 kj101 a0 t241) else ((tremaref02_in.f a0 8352 8384).bind fun t242 => (if t242 = true then (tremaref02_Category.j10 kj101 a0 true) else ((tremaref02_in.f a0 8592 8959).bind fun t243 => (if t243 = true then (tremaref02_Category.j10 kj101 a0 t243) else ((tremaref02_in.f a0 65533 65533).bind fun t244 => (if t244 = true then (tremaref02_Category.j10 kj101 a0 t244) else ((tremaref02_in.f a0 128512 128591).bind fun t245 => (tremaref02_Category.j10 kj101 a0 t245))))))))))) = some r := H
                              have A107 := Aside0.mk A1070
                              clear A1070
                              by_cases c108 : t240 = true
                              ·subst c108
                               have H1 : (tremaref02_Category.j10 kj101 a0 true) = some r := by rw [if_pos rfl] at H; exact H
                               clear H
                               have H := H1
                               clear H1
                               have H' := Aside0.mk H
                               clear H
                               go_wp2_with (first | ((with_reducible refine gate_callee (f := 31) rfl ?_); refine goesL_ (some 121) rfl rfl Tryd.func31 (by kernel_rfl) rfl #[.int .i32 a0, .int .i32 215, .int .i32 215] rfl (by (try simp only [List.map_toArray, List.map_cons, List.map_nil]); first | done | rfl) ?_; (with_reducible refine (tremaref02_in.calls a0 215 215 true _ A107.out).mono ?_); rintro e w' ⟨rfl, ⟨nd, rfl⟩⟩; refine ⟨_, rfl, ?_⟩))
                               go_meet
                               case rel => exact ⟨_, (true), (by first | rfl | (simp; done) | (simp [*]; done)), H', ⟨by have := HJ2.out; have := HJ13.out; have := HJ26.out; have := HJ35.out; have := HJ83.out; have := HJ92.out; have := HJ101.out; first | omega | exact Nat.le_refl _⟩, by repeat (first | exact Drawn0.refl _ | apply Drawn0.step)⟩
                              ·as_aux_lemma =>
                               replace c108 := Bool.eq_false_iff.mpr c108
                               subst c108
                               have H1 : ((tremaref02_in.f a0 247 247).bind fun t241 => (if t241 = true then (tremaref02_Category.j10 kj101 a0 t241) else ((tremaref02_in.f a0 8352 8384).bind fun t242 => (if t242 = true then (tremaref02_Category.j10 kj101 a0 true) else ((tremaref02_in.f a0 8592 8959).bind fun t243 => (if t243 = true then (tremaref02_Category.j10 kj101 a0 t243) else ((tremaref02_in.f a0 65533 65533).bind fun t244 => (if t244 = true then (tremaref02_Category.j10 kj101 a0 t244) else ((tremaref02_in.f a0 128512 128591).bind fun t245 => (tremaref02_Category.j10 kj101 a0 t245)))))))))) = some r := by rw [if_neg (show ¬ (false = true) by decide)] at H; exact H
                               clear H
                               have H := H1
                               clear H1
                               replace H := Option.bind_eq_some_iff.mp H
                               obtain ⟨t241, A1090, H⟩ := H
                               replace H : (if t241 = true then (tremaref02_Category.j10 kj101 a0 t241) else ((tremaref02_in.f a0 8352 8384).bind fun t242 => (if t242 = true then (tremaref02_Category.j10 kj101 a0 true) else ((tremaref02_in.f a0 8592 8959).bind fun t243 => (if t243 = true then (tremaref02_Category.j10 kj101 a0 t243) else ((tremaref02_in.f a0 65533 65533).bind fun t244 => (if t244 = true then (tremaref02_Category.j10 kj101 a0 t244) else ((tremaref02_in.f a0 128512 128591).bind fun t245 => (tremaref02_Category.j10 kj101 a0 t245))))))))) = some r := H
                               have A109 := Aside0.mk A1090
                               clear A1090
                               by_cases c110 : t241 = true
                               ·subst c110
                                have H1 : (tremaref02_Category.j10 kj101 a0 true) = some r := by rw [if_pos rfl] at H; exact H
                                clear H
                                have H := H1
                                clear H1
                                have H' := Aside0.mk H
                                clear H
                                go_wp2_with (first | ((with_reducible refine gate_callee (f := 31) rfl ?_); refine goesL_ (some 121) rfl rfl Tryd.func31 (by kernel_rfl) rfl #[.int .i32 a0, .int .i32 215, .int .i32 215] rfl (by (try simp only [List.map_toArray, List.map_cons, List.map_nil]); first | done | rfl) ?_; (with_reducible refine (tremaref02_in.calls a0 215 215 false _ A107.out).mono ?_); rintro e w' ⟨rfl, ⟨nd, rfl⟩⟩; refine ⟨_, rfl, ?_⟩) | ((with_reducible refine gate_callee (f := 31) rfl ?_); refine goesL_ (some 123) rfl rfl Tryd.func31 (by kernel_rfl) rfl #[.int .i32 a0, .int .i32 247, .int .i32 247] rfl (by (try simp only [List.map_toArray, List.map_cons, List.map_nil]); first | done | rfl) ?_; (with_reducible refine (tremaref02_in.calls a0 247 247 true _ A109.out).mono ?_); rintro e w' ⟨rfl, ⟨nd, rfl⟩⟩; refine ⟨_, rfl, ?_⟩))
                                go_meet
                                case rel => exact ⟨_, (true), (by first | rfl | (simp; done) | (simp [*]; done)), H', ⟨by have := HJ2.out; have := HJ13.out; have := HJ26.out; have := HJ35.out; have := HJ83.out; have := HJ92.out; have := HJ101.out; first | omega | exact Nat.le_refl _⟩, by repeat (first | exact Drawn0.refl _ | apply Drawn0.step)⟩
                               ·as_aux_lemma =>
                                replace c110 := Bool.eq_false_iff.mpr c110
                                subst c110
                                have H1 : ((tremaref02_in.f a0 8352 8384).bind fun t242 => (if t242 = true then (tremaref02_Category.j10 kj101 a0 true) else ((tremaref02_in.f a0 8592 8959).bind fun t243 => (if t243 = true then (tremaref02_Category.j10 kj101 a0 t243) else ((tremaref02_in.f a0 65533 65533).bind fun t244 => (if t244 = true then (tremaref02_Category.j10 kj101 a0 t244) else ((tremaref02_in.f a0 128512 128591).bind fun t245 => (tremaref02_Category.j10 kj101 a0 t245)))))))) = some r := by rw [if_neg (show ¬ (false = true) by decide)] at H; exact H
                                clear H
                                have H := H1
                                clear H1
                                replace H := Option.bind_eq_some_iff.mp H
                                obtain ⟨t242, A1110, H⟩ := H
                                replace H : (if t242 = true then (tremaref02_Category.j10 kj101 a0 true) else ((tremaref02_in.f a0 8592 8959).bind fun t243 => (if t243 = true then (tremaref02_Category.j10 kj101 a0 t243) else ((tremaref02_in.f a0 65533 65533).bind fun t244 => (if t244 = true then (tremaref02_Category.j10 kj101 a0 t244) else ((tremaref02_in.f a0 128512 128591).bind fun t245 => (tremaref02_Category.j10 kj101 a0 t245))))))) = some r := H
                                have A111 := Aside0.mk A1110
                                clear A1110
                                by_cases c112 : t242 = true
                                ·subst c112
                                 have H1 : (tremaref02_Category.j10 kj101 a0 true) = some r := by rw [if_pos rfl] at H; exact H
                                 clear H
                                 have H := H1
                                 clear H1
                                 have H' := Aside0.mk H
                                 clear H
                                 go_wp2_with (first | ((with_reducible refine gate_callee (f := 31) rfl ?_); refine goesL_ (some 121) rfl rfl Tryd.func31 (by kernel_rfl) rfl #[.int .i32 a0, .int .i32 215, .int .i32 215] rfl (by (try simp only [List.map_toArray, List.map_cons, List.map_nil]); first | done | rfl) ?_; (with_reducible refine (tremaref02_in.calls a0 215 215 false _ A107.out).mono ?_); rintro e w' ⟨rfl, ⟨nd, rfl⟩⟩; refine ⟨_, rfl, ?_⟩) | ((with_reducible refine gate_callee (f := 31) rfl ?_); refine goesL_ (some 123) rfl rfl Tryd.func31 (by kernel_rfl) rfl #[.int .i32 a0, .int .i32 247, .int .i32 247] rfl (by (try simp only [List.map_toArray, List.map_cons, List.map_nil]); first | done | rfl) ?_; (with_reducible refine (tremaref02_in.calls a0 247 247 false _ A109.out).mono ?_); rintro e w' ⟨rfl, ⟨nd, rfl⟩⟩; refine ⟨_, rfl, ?_⟩) | ((with_reducible refine gate_callee (f := 31) rfl ?_); refine goesL_ (some 125) rfl rfl Tryd.func31 (by kernel_rfl) rfl #[.int .i32 a0, .int .i32 8352, .int .i32 8384] rfl (by (try simp only [List.map_toArray, List.map_cons, List.map_nil]); first | done | rfl) ?_; (with_reducible refine (tremaref02_in.calls a0 8352 8384 true _ A111.out).mono ?_); rintro e w' ⟨rfl, ⟨nd, rfl⟩⟩; refine ⟨_, rfl, ?_⟩))
                                 go_meet
                                 case rel => exact ⟨_, (true), (by first | rfl | (simp; done) | (simp [*]; done)), H', ⟨by have := HJ2.out; have := HJ13.out; have := HJ26.out; have := HJ35.out; have := HJ83.out; have := HJ92.out; have := HJ101.out; first | omega | exact Nat.le_refl _⟩, by repeat (first | exact Drawn0.refl _ | apply Drawn0.step)⟩
                                ·as_aux_lemma =>
                                 replace c112 := Bool.eq_false_iff.mpr c112
                                 subst c112
                                 have H1 : ((tremaref02_in.f a0 8592 8959).bind fun t243 => (if t243 = true then (tremaref02_Category.j10 kj101 a0 t243) else ((tremaref02_in.f a0 65533 65533).bind fun t244 => (if t244 = true then (tremaref02_Category.j10 kj101 a0 t244) else ((tremaref02_in.f a0 128512 128591).bind fun t245 => (tremaref02_Category.j10 kj101 a0 t245)))))) = some r := by rw [if_neg (show ¬ (false = true) by decide)] at H; exact H
                                 clear H
                                 have H := H1
                                 clear H1
                                 replace H := Option.bind_eq_some_iff.mp H
                                 obtain ⟨t243, A1130, H⟩ := H
                                 replace H : (if t243 = true then (tremaref02_Category.j10 kj101 a0 t243) else ((tremaref02_in.f a0 65533 65533).bind fun t244 => (if t244 = true then (tremaref02_Category.j10 kj101 a0 t244) else ((tremaref02_in.f a0 128512 128591).bind fun t245 => (tremaref02_Category.j10 kj101 a0 t245))))) = some r := H
                                 have A113 := Aside0.mk A1130
                                 clear A1130
                                 by_cases c114 : t243 = true
                                 ·subst c114
                                  have H1 : (tremaref02_Category.j10 kj101 a0 true) = some r := by rw [if_pos rfl] at H; exact H
                                  clear H
                                  have H := H1
                                  clear H1
                                  have H' := Aside0.mk H
                                  clear H
                                  go_wp2_with (first | ((with_reducible refine gate_callee (f := 31) rfl ?_); refine goesL_ (some 121) rfl rfl Tryd.func31 (by kernel_rfl) rfl #[.int .i32 a0, .int .i32 215, .int .i32 215] rfl (by (try simp only [List.map_toArray, List.map_cons, List.map_nil]); first | done | rfl) ?_; (with_reducible refine (tremaref02_in.calls a0 215 215 false _ A107.out).mono ?_); rintro e w' ⟨rfl, ⟨nd, rfl⟩⟩; refine ⟨_, rfl, ?_⟩) | ((with_reducible refine gate_callee (f := 31) rfl ?_); refine goesL_ (some 123) rfl rfl Tryd.func31 (by kernel_rfl) rfl #[.int .i32 a0, .int .i32 247, .int .i32 247] rfl (by (try simp only [List.map_toArray, List.map_cons, List.map_nil]); first | done | rfl) ?_; (with_reducible refine (tremaref02_in.calls a0 247 247 false _ A109.out).mono ?_); rintro e w' ⟨rfl, ⟨nd, rfl⟩⟩; refine ⟨_, rfl, ?_⟩) | ((with_reducible refine gate_callee (f := 31) rfl ?_); refine goesL_ (some 125) rfl rfl Tryd.func31 (by kernel_rfl) rfl #[.int .i32 a0, .int .i32 8352, .int .i32 8384] rfl (by (try simp only [List.map_toArray, List.map_cons, List.map_nil]); first | done | rfl) ?_; (with_reducible refine (tremaref02_in.calls a0 8352 8384 false _ A111.out).mono ?_); rintro e w' ⟨rfl, ⟨nd, rfl⟩⟩; refine ⟨_, rfl, ?_⟩) | (go_at_call 31; (with_reducible refine (tremaref02_in.calls a0 8592 8959 true _ A113.out).mono ?_); rintro e w' ⟨rfl, ⟨nd, rfl⟩⟩))
                                  go_meet
                                  case rel => exact ⟨_, (true), (by first | rfl | (simp; done) | (simp [*]; done)), H', ⟨by have := HJ2.out; have := HJ13.out; have := HJ26.out; have := HJ35.out; have := HJ83.out; have := HJ92.out; have := HJ101.out; first | omega | exact Nat.le_refl _⟩, by repeat (first | exact Drawn0.refl _ | apply Drawn0.step)⟩
                                 ·as_aux_lemma =>
                                  replace c114 := Bool.eq_false_iff.mpr c114
                                  subst c114
                                  have H1 : ((tremaref02_in.f a0 65533 65533).bind fun t244 => (if t244 = true then (tremaref02_Category.j10 kj101 a0 t244) else ((tremaref02_in.f a0 128512 128591).bind fun t245 => (tremaref02_Category.j10 kj101 a0 t245)))) = some r := by rw [if_neg (show ¬ (false = true) by decide)] at H; exact H
                                  clear H
                                  have H := H1
                                  clear H1
                                  replace H := Option.bind_eq_some_iff.mp H
                                  obtain ⟨t244, A1150, H⟩ := H
                                  replace H : (if t244 = true then (tremaref02_Category.j10 kj101 a0 t244) else ((tremaref02_in.f a0 128512 128591).bind fun t245 => (tremaref02_Category.j10 kj101 a0 t245))) = some r := H
                                  have A115 := Aside0.mk A1150
                                  clear A1150
                                  by_cases c116 : t244 = true
                                  ·subst c116
                                   have H1 : (tremaref02_Category.j10 kj101 a0 true) = some r := by rw [if_pos rfl] at H; exact H
                                   clear H
                                   have H := H1
                                   clear H1
                                   have H' := Aside0.mk H
                                   clear H
                                   go_wp2_with (first | ((with_reducible refine gate_callee (f := 31) rfl ?_); refine goesL_ (some 121) rfl rfl Tryd.func31 (by kernel_rfl) rfl #[.int .i32 a0, .int .i32 215, .int .i32 215] rfl (by (try simp only [List.map_toArray, List.map_cons, List.map_nil]); first | done | rfl) ?_; (with_reducible refine (tremaref02_in.calls a0 215 215 false _ A107.out).mono ?_); rintro e w' ⟨rfl, ⟨nd, rfl⟩⟩; refine ⟨_, rfl, ?_⟩) | ((with_reducible refine gate_callee (f := 31) rfl ?_); refine goesL_ (some 123) rfl rfl Tryd.func31 (by kernel_rfl) rfl #[.int .i32 a0, .int .i32 247, .int .i32 247] rfl (by (try simp only [List.map_toArray, List.map_cons, List.map_nil]); first | done | rfl) ?_; (with_reducible refine (tremaref02_in.calls a0 247 247 false _ A109.out).mono ?_); rintro e w' ⟨rfl, ⟨nd, rfl⟩⟩; refine ⟨_, rfl, ?_⟩) | ((with_reducible refine gate_callee (f := 31) rfl ?_); refine goesL_ (some 125) rfl rfl Tryd.func31 (by kernel_rfl) rfl #[.int .i32 a0, .int .i32 8352, .int .i32 8384] rfl (by (try simp only [List.map_toArray, List.map_cons, List.map_nil]); first | done | rfl) ?_; (with_reducible refine (tremaref02_in.calls a0 8352 8384 false _ A111.out).mono ?_); rintro e w' ⟨rfl, ⟨nd, rfl⟩⟩; refine ⟨_, rfl, ?_⟩) | (go_at_call 31; (with_reducible refine (tremaref02_in.calls a0 8592 8959 false _ A113.out).mono ?_); rintro e w' ⟨rfl, ⟨nd, rfl⟩⟩) | ((with_reducible refine gate_callee (f := 31) rfl ?_); refine goesL_ (some 131) rfl rfl Tryd.func31 (by kernel_rfl) rfl #[.int .i32 a0, .int .i32 65533, .int .i32 65533] rfl (by (try simp only [List.map_toArray, List.map_cons, List.map_nil]); first | done | rfl) ?_; (with_reducible refine (tremaref02_in.calls a0 65533 65533 true _ A115.out).mono ?_); rintro e w' ⟨rfl, ⟨nd, rfl⟩⟩; refine ⟨_, rfl, ?_⟩))
                                   go_meet
                                   case rel => exact ⟨_, (true), (by first | rfl | (simp; done) | (simp [*]; done)), H', ⟨by have := HJ2.out; have := HJ13.out; have := HJ26.out; have := HJ35.out; have := HJ83.out; have := HJ92.out; have := HJ101.out; first | omega | exact Nat.le_refl _⟩, by repeat (first | exact Drawn0.refl _ | apply Drawn0.step)⟩
                                  ·as_aux_lemma =>
                                   replace c116 := Bool.eq_false_iff.mpr c116
                                   subst c116
                                   have H1 : ((tremaref02_in.f a0 128512 128591).bind fun t245 => (tremaref02_Category.j10 kj101 a0 t245)) = some r := by rw [if_neg (show ¬ (false = true) by decide)] at H; exact H
                                   clear H
                                   have H := H1
                                   clear H1
                                   replace H := Option.bind_eq_some_iff.mp H
                                   obtain ⟨t245, A1170, H⟩ := H
                                   replace H : (tremaref02_Category.j10 kj101 a0 t245) = some r := H
                                   have A117 := Aside0.mk A1170
                                   clear A1170
                                   have H' := Aside0.mk H
                                   clear H
                                   go_wp2_with (first | ((with_reducible refine gate_callee (f := 31) rfl ?_); refine goesL_ (some 121) rfl rfl Tryd.func31 (by kernel_rfl) rfl #[.int .i32 a0, .int .i32 215, .int .i32 215] rfl (by (try simp only [List.map_toArray, List.map_cons, List.map_nil]); first | done | rfl) ?_; (with_reducible refine (tremaref02_in.calls a0 215 215 false _ A107.out).mono ?_); rintro e w' ⟨rfl, ⟨nd, rfl⟩⟩; refine ⟨_, rfl, ?_⟩) | ((with_reducible refine gate_callee (f := 31) rfl ?_); refine goesL_ (some 123) rfl rfl Tryd.func31 (by kernel_rfl) rfl #[.int .i32 a0, .int .i32 247, .int .i32 247] rfl (by (try simp only [List.map_toArray, List.map_cons, List.map_nil]); first | done | rfl) ?_; (with_reducible refine (tremaref02_in.calls a0 247 247 false _ A109.out).mono ?_); rintro e w' ⟨rfl, ⟨nd, rfl⟩⟩; refine ⟨_, rfl, ?_⟩) | ((with_reducible refine gate_callee (f := 31) rfl ?_); refine goesL_ (some 125) rfl rfl Tryd.func31 (by kernel_rfl) rfl #[.int .i32 a0, .int .i32 8352, .int .i32 8384] rfl (by (try simp only [List.map_toArray, List.map_cons, List.map_nil]); first | done | rfl) ?_; (with_reducible refine (tremaref02_in.calls a0 8352 8384 false _ A111.out).mono ?_); rintro e w' ⟨rfl, ⟨nd, rfl⟩⟩; refine ⟨_, rfl, ?_⟩) | (go_at_call 31; (with_reducible refine (tremaref02_in.calls a0 8592 8959 false _ A113.out).mono ?_); rintro e w' ⟨rfl, ⟨nd, rfl⟩⟩) | ((with_reducible refine gate_callee (f := 31) rfl ?_); refine goesL_ (some 131) rfl rfl Tryd.func31 (by kernel_rfl) rfl #[.int .i32 a0, .int .i32 65533, .int .i32 65533] rfl (by (try simp only [List.map_toArray, List.map_cons, List.map_nil]); first | done | rfl) ?_; (with_reducible refine (tremaref02_in.calls a0 65533 65533 false _ A115.out).mono ?_); rintro e w' ⟨rfl, ⟨nd, rfl⟩⟩; refine ⟨_, rfl, ?_⟩) | ((with_reducible refine gate_callee (f := 31) rfl ?_); refine goesL_ (some 133) rfl rfl Tryd.func31 (by kernel_rfl) rfl #[.int .i32 a0, .int .i32 128512, .int .i32 128591] rfl (by (try simp only [List.map_toArray, List.map_cons, List.map_nil]); first | done | rfl) ?_; (with_reducible refine (tremaref02_in.calls a0 128512 128591 t245 _ A117.out).mono ?_); rintro e w' ⟨rfl, ⟨nd, rfl⟩⟩; refine ⟨_, rfl, ?_⟩))
                                   go_meet
                                   case rel => exact ⟨_, (t245), (by first | rfl | (simp; done) | (simp [*]; done)), H', ⟨by have := HJ2.out; have := HJ13.out; have := HJ26.out; have := HJ35.out; have := HJ83.out; have := HJ92.out; have := HJ101.out; first | omega | exact Nat.le_refl _⟩, by repeat (first | exact Drawn0.refl _ | apply Drawn0.step)⟩
             case rest =>
              clear HC78
              try clear c1
              try clear c2
              try clear p2
              try clear c3
              try clear c4
              try clear c5
              try clear c6
              try clear c7
              try clear c8
              try clear c9
              try clear c10
              try clear c11
              try clear c12
              try clear c13
              try clear c15
              try clear c17
              try clear c19
              try clear c21
              try clear c23
              try clear c25
              try clear c26
              try clear c28
              try clear c30
              try clear c31
              try clear c32
              try clear c34
              try clear c35
              try clear c37
              try clear c39
              try clear c41
              try clear c44
              try clear c46
              try clear c48
              try clear c50
              try clear c53
              try clear c55
              try clear c57
              try clear c59
              try clear c62
              try clear c64
              try clear c66
              try clear c68
              try clear c70
              try clear c72
              try clear c74
              try clear c76
              try clear c79
              try clear c81
              try clear c83
              try clear c86
              try clear c88
              try clear c90
              try clear c92
              try clear c95
              try clear c97
              try clear c99
              try clear c101
              try clear c104
              try clear c106
              try clear c108
              try clear c110
              try clear c112
              try clear c114
              try clear c116
              try clear p2
              obtain ⟨kq, x87_77, rfl, HA, HJ77, ⟨mc77, rfl⟩⟩ := hcut
              cases kq with
              | zero => exact absurd HA.out (by simp [tremaref02_Category.j10])
              | succ kj77 =>
               have H := HA.out
               clear HA
               simp only [tremaref02_Category.j10] at H
               by_cases c118 : x87_77 = true
               ·subst c118
                have H1 : (some 5) = some r := by rw [if_pos rfl] at H; exact H
                clear H
                have H := H1
                clear H1
                obtain rfl := Option.some.inj H
                go_wp2
                go_ret
                exact ⟨by first | rfl | (simp; done) | (simp [*]; done), by repeat (first | exact Drawn0.refl _ | apply Drawn0.step)⟩
               ·as_aux_lemma =>
                replace c118 := Bool.eq_false_iff.mpr c118
                subst c118
                have H1 : ((tremaref02_in.f a0 65 90).bind fun t246 => (if t246 = true then (some 1) else ((tremaref02_in.f a0 97 122).bind fun t247 => (if t247 = true then (some 1) else ((tremaref02_in.f a0 170 170).bind fun t248 => (if t248 = true then (some 1) else ((tremaref02_in.f a0 181 181).bind fun t249 => (if t249 = true then (tremaref02_Category.j11 kj77 a0 true) else ((tremaref02_in.f a0 186 186).bind fun t250 => (tremaref02_Category.j11 kj77 a0 t250)))))))))) = some r := by rw [if_neg (show ¬ (false = true) by decide)] at H; exact H
                clear H
                have H := H1
                clear H1
                replace H := Option.bind_eq_some_iff.mp H
                obtain ⟨t246, A1190, H⟩ := H
                replace H : (if t246 = true then (some 1) else ((tremaref02_in.f a0 97 122).bind fun t247 => (if t247 = true then (some 1) else ((tremaref02_in.f a0 170 170).bind fun t248 => (if t248 = true then (some 1) else ((tremaref02_in.f a0 181 181).bind fun t249 => (if t249 = true then (tremaref02_Category.j11 kj77 a0 true) else ((tremaref02_in.f a0 186 186).bind fun t250 => (tremaref02_Category.j11 kj77 a0 t250))))))))) = some r := H
                have A119 := Aside0.mk A1190
                clear A1190
                by_cases c120 : t246 = true
                ·subst c120
                 have H1 : (some 1) = some r := by rw [if_pos rfl] at H; exact H
                 clear H
                 have H := H1
                 clear H1
                 obtain rfl := Option.some.inj H
                 go_wp2_with (first | ((with_reducible refine gate_callee (f := 31) rfl ?_); refine goesL_ (some 136) rfl rfl Tryd.func31 (by kernel_rfl) rfl #[.int .i32 a0, .int .i32 65, .int .i32 90] rfl (by (try simp only [List.map_toArray, List.map_cons, List.map_nil]); first | done | rfl) ?_; (with_reducible refine (tremaref02_in.calls a0 65 90 true _ A119.out).mono ?_); rintro e w' ⟨rfl, ⟨nd, rfl⟩⟩; refine ⟨_, rfl, ?_⟩))
                 go_ret
                 exact ⟨by first | rfl | (simp; done) | (simp [*]; done), by repeat (first | exact Drawn0.refl _ | apply Drawn0.step)⟩
                ·as_aux_lemma =>
                 replace c120 := Bool.eq_false_iff.mpr c120
                 subst c120
                 have H1 : ((tremaref02_in.f a0 97 122).bind fun t247 => (if t247 = true then (some 1) else ((tremaref02_in.f a0 170 170).bind fun t248 => (if t248 = true then (some 1) else ((tremaref02_in.f a0 181 181).bind fun t249 => (if t249 = true then (tremaref02_Category.j11 kj77 a0 true) else ((tremaref02_in.f a0 186 186).bind fun t250 => (tremaref02_Category.j11 kj77 a0 t250)))))))) = some r := by rw [if_neg (show ¬ (false = true) by decide)] at H; exact H
                 clear H
                 have H := H1
                 clear H1
                 replace H := Option.bind_eq_some_iff.mp H
                 obtain ⟨t247, A1210, H⟩ := H
                 replace H : (if t247 = true then (some 1) else ((tremaref02_in.f a0 170 170).bind fun t248 => (if t248 = true then (some 1) else ((tremaref02_in.f a0 181 181).bind fun t249 => (if t249 = true then (tremaref02_Category.j11 kj77 a0 true) else ((tremaref02_in.f a0 186 186).bind fun t250 => (tremaref02_Category.j11 kj77 a0 t250))))))) = some r := H
                 have A121 := Aside0.mk A1210
                 clear A1210
                 by_cases c122 : t247 = true
                 ·subst c122
                  have H1 : (some 1) = some r := by rw [if_pos rfl] at H; exact H
                  clear H
                  have H := H1
                  clear H1
                  obtain rfl := Option.some.inj H
                  go_wp2_with (first | ((with_reducible refine gate_callee (f := 31) rfl ?_); refine goesL_ (some 136) rfl rfl Tryd.func31 (by kernel_rfl) rfl #[.int .i32 a0, .int .i32 65, .int .i32 90] rfl (by (try simp only [List.map_toArray, List.map_cons, List.map_nil]); first | done | rfl) ?_; (with_reducible refine (tremaref02_in.calls a0 65 90 false _ A119.out).mono ?_); rintro e w' ⟨rfl, ⟨nd, rfl⟩⟩; refine ⟨_, rfl, ?_⟩) | ((with_reducible refine gate_callee (f := 31) rfl ?_); refine goesL_ (some 138) rfl rfl Tryd.func31 (by kernel_rfl) rfl #[.int .i32 a0, .int .i32 97, .int .i32 122] rfl (by (try simp only [List.map_toArray, List.map_cons, List.map_nil]); first | done | rfl) ?_; (with_reducible refine (tremaref02_in.calls a0 97 122 true _ A121.out).mono ?_); rintro e w' ⟨rfl, ⟨nd, rfl⟩⟩; refine ⟨_, rfl, ?_⟩))
                  go_ret
                  exact ⟨by first | rfl | (simp; done) | (simp [*]; done), by repeat (first | exact Drawn0.refl _ | apply Drawn0.step)⟩
                 ·as_aux_lemma =>
                  replace c122 := Bool.eq_false_iff.mpr c122
                  subst c122
                  have H1 : ((tremaref02_in.f a0 170 170).bind fun t248 => (if t248 = true then (some 1) else ((tremaref02_in.f a0 181 181).bind fun t249 => (if t249 = true then (tremaref02_Category.j11 kj77 a0 true) else ((tremaref02_in.f a0 186 186).bind fun t250 => (tremaref02_Category.j11 kj77 a0 t250)))))) = some r := by rw [if_neg (show ¬ (false = true) by decide)] at H; exact H
                  clear H
                  have H := H1
                  clear H1
                  replace H := Option.bind_eq_some_iff.mp H
                  obtain ⟨t248, A1230, H⟩ := H
                  replace H : (if t248 = true then (some 1) else ((tremaref02_in.f a0 181 181).bind fun t249 => (if t249 = true then (tremaref02_Category.j11 kj77 a0 true) else ((tremaref02_in.f a0 186 186).bind fun t250 => (tremaref02_Category.j11 kj77 a0 t250))))) = some r := H
                  have A123 := Aside0.mk A1230
                  clear A1230
                  by_cases c124 : t248 = true
                  ·subst c124
                   have H1 : (some 1) = some r := by rw [if_pos rfl] at H; exact H
                   clear H
                   have H := H1
                   clear H1
                   obtain rfl := Option.some.inj H
                   go_wp2_with (first | ((with_reducible refine gate_callee (f := 31) rfl ?_); refine goesL_ (some 136) rfl rfl Tryd.func31 (by kernel_rfl) rfl #[.int .i32 a0, .int .i32 65, .int .i32 90] rfl (by (try simp only [List.map_toArray, List.map_cons, List.map_nil]); first | done | rfl) ?_; (with_reducible refine (tremaref02_in.calls a0 65 90 false _ A119.out).mono ?_); rintro e w' ⟨rfl, ⟨nd, rfl⟩⟩; refine ⟨_, rfl, ?_⟩) | ((with_reducible refine gate_callee (f := 31) rfl ?_); refine goesL_ (some 138) rfl rfl Tryd.func31 (by kernel_rfl) rfl #[.int .i32 a0, .int .i32 97, .int .i32 122] rfl (by (try simp only [List.map_toArray, List.map_cons, List.map_nil]); first | done | rfl) ?_; (with_reducible refine (tremaref02_in.calls a0 97 122 false _ A121.out).mono ?_); rintro e w' ⟨rfl, ⟨nd, rfl⟩⟩; refine ⟨_, rfl, ?_⟩) | ((with_reducible refine gate_callee (f := 31) rfl ?_); refine goesL_ (some 140) rfl rfl Tryd.func31 (by kernel_rfl) rfl #[.int .i32 a0, .int .i32 170, .int .i32 170] rfl (by (try simp only [List.map_toArray, List.map_cons, List.map_nil]); first | done | rfl) ?_; (with_reducible refine (tremaref02_in.calls a0 170 170 true _ A123.out).mono ?_); rintro e w' ⟨rfl, ⟨nd, rfl⟩⟩; refine ⟨_, rfl, ?_⟩))
                   go_ret
                   exact ⟨by first | rfl | (simp; done) | (simp [*]; done), by repeat (first | exact Drawn0.refl _ | apply Drawn0.step)⟩
                  ·as_aux_lemma =>
                   replace c124 := Bool.eq_false_iff.mpr c124
                   subst c124
                   have H1 : ((tremaref02_in.f a0 181 181).bind fun t249 => (if t249 = true then (tremaref02_Category.j11 kj77 a0 true) else ((tremaref02_in.f a0 186 186).bind fun t250 => (tremaref02_Category.j11 kj77 a0 t250)))) = some r := by rw [if_neg (show ¬ (false = true) by decide)] at H; exact H
                   clear H
                   have H := H1
                   clear H1
                   have HC125 := Aside0.mk H
                   clear H
                   go_upto_region 52 with (first | ((with_reducible refine gate_callee (f := 31) rfl ?_); refine goesL_ (some 136) rfl rfl Tryd.func31 (by kernel_rfl) rfl #[.int .i32 a0, .int .i32 65, .int .i32 90] rfl (by (try simp only [List.map_toArray, List.map_cons, List.map_nil]); first | done | rfl) ?_; (with_reducible refine (tremaref02_in.calls a0 65 90 false _ A119.out).mono ?_); rintro e w' ⟨rfl, ⟨nd, rfl⟩⟩; refine ⟨_, rfl, ?_⟩) | ((with_reducible refine gate_callee (f := 31) rfl ?_); refine goesL_ (some 138) rfl rfl Tryd.func31 (by kernel_rfl) rfl #[.int .i32 a0, .int .i32 97, .int .i32 122] rfl (by (try simp only [List.map_toArray, List.map_cons, List.map_nil]); first | done | rfl) ?_; (with_reducible refine (tremaref02_in.calls a0 97 122 false _ A121.out).mono ?_); rintro e w' ⟨rfl, ⟨nd, rfl⟩⟩; refine ⟨_, rfl, ?_⟩) | ((with_reducible refine gate_callee (f := 31) rfl ?_); refine goesL_ (some 140) rfl rfl Tryd.func31 (by kernel_rfl) rfl #[.int .i32 a0, .int .i32 170, .int .i32 170] rfl (by (try simp only [List.map_toArray, List.map_cons, List.map_nil]); first | done | rfl) ?_; (with_reducible refine (tremaref02_in.calls a0 170 170 false _ A123.out).mono ?_); rintro e w' ⟨rfl, ⟨nd, rfl⟩⟩; refine ⟨_, rfl, ?_⟩))
                   (try simp only [Act.put, List.setIfInBounds_toArray, List.set_cons_zero, List.set_cons_succ])
                   go_cut [134] (fun v134 wc => ∃ (kq : Nat) (x134_124 : Bool), v134 = .bool x134_124 ∧ Aside0 (tremaref02_Category.j11 kq a0 x134_124 = some r) ∧ Aside0 (kq ≤ kj77) ∧ Drawn0 w wc)
                   case first =>
                    have H := HC125.out
                    clear HC125
                    replace H := Option.bind_eq_some_iff.mp H
                    obtain ⟨t249, A1260, H⟩ := H
                    replace H : (if t249 = true then (tremaref02_Category.j11 kj77 a0 true) else ((tremaref02_in.f a0 186 186).bind fun t250 => (tremaref02_Category.j11 kj77 a0 t250))) = some r := H
                    have A126 := Aside0.mk A1260
                    clear A1260
                    by_cases c127 : t249 = true
                    ·subst c127
                     have H1 : (tremaref02_Category.j11 kj77 a0 true) = some r := by rw [if_pos rfl] at H; exact H
                     clear H
                     have H := H1
                     clear H1
                     have H' := Aside0.mk H
                     clear H
                     go_wp2_with (first | ((with_reducible refine gate_callee (f := 31) rfl ?_); refine goesL_ (some 142) rfl rfl Tryd.func31 (by kernel_rfl) rfl #[.int .i32 a0, .int .i32 181, .int .i32 181] rfl (by (try simp only [List.map_toArray, List.map_cons, List.map_nil]); first | done | rfl) ?_; (with_reducible refine (tremaref02_in.calls a0 181 181 true _ A126.out).mono ?_); rintro e w' ⟨rfl, ⟨nd, rfl⟩⟩; refine ⟨_, rfl, ?_⟩))
                     go_meet
                     case rel => exact ⟨_, (true), (by first | rfl | (simp; done) | (simp [*]; done)), H', ⟨by have := HJ2.out; have := HJ13.out; have := HJ26.out; have := HJ35.out; have := HJ77.out; first | omega | exact Nat.le_refl _⟩, by repeat (first | exact Drawn0.refl _ | apply Drawn0.step)⟩
                    ·as_aux_lemma =>
                     replace c127 := Bool.eq_false_iff.mpr c127
                     subst c127
                     have H1 : ((tremaref02_in.f a0 186 186).bind fun t250 => (tremaref02_Category.j11 kj77 a0 t250)) = some r := by rw [if_neg (show ¬ (false = true) by decide)] at H; exact H
                     clear H
                     have H := H1
                     clear H1
                     replace H := Option.bind_eq_some_iff.mp H
                     obtain ⟨t250, A1280, H⟩ := H
                     replace H : (tremaref02_Category.j11 kj77 a0 t250) = some r := H
                     have A128 := Aside0.mk A1280
                     clear A1280
                     have H' := Aside0.mk H
                     clear H
                     go_wp2_with (first | ((with_reducible refine gate_callee (f := 31) rfl ?_); refine goesL_ (some 142) rfl rfl Tryd.func31 (by kernel_rfl) rfl #[.int .i32 a0, .int .i32 181, .int .i32 181] rfl (by (try simp only [List.map_toArray, List.map_cons, List.map_nil]); first | done | rfl) ?_; (with_reducible refine (tremaref02_in.calls a0 181 181 false _ A126.out).mono ?_); rintro e w' ⟨rfl, ⟨nd, rfl⟩⟩; refine ⟨_, rfl, ?_⟩) | (go_at_call 31; (with_reducible refine (tremaref02_in.calls a0 186 186 t250 _ A128.out).mono ?_); rintro e w' ⟨rfl, ⟨nd, rfl⟩⟩))
                     go_meet
                     case rel => exact ⟨_, (t250), (by first | rfl | (simp; done) | (simp [*]; done)), H', ⟨by have := HJ2.out; have := HJ13.out; have := HJ26.out; have := HJ35.out; have := HJ77.out; first | omega | exact Nat.le_refl _⟩, by repeat (first | exact Drawn0.refl _ | apply Drawn0.step)⟩
                   case rest =>
                    clear HC125
                    try clear c1
                    try clear c2
                    try clear p2
                    try clear c3
                    try clear c4
                    try clear c5
                    try clear c6
                    try clear c7
                    try clear c8
                    try clear c9
                    try clear c10
                    try clear c11
                    try clear c12
                    try clear c13
                    try clear c15
                    try clear c17
                    try clear c19
                    try clear c21
                    try clear c23
                    try clear c25
                    try clear c26
                    try clear c28
                    try clear c30
                    try clear c31
                    try clear c32
                    try clear c34
                    try clear c35
                    try clear c37
                    try clear c39
                    try clear c41
                    try clear c44
                    try clear c46
                    try clear c48
                    try clear c50
                    try clear c53
                    try clear c55
                    try clear c57
                    try clear c59
                    try clear c62
                    try clear c64
                    try clear c66
                    try clear c68
                    try clear c70
                    try clear c72
                    try clear c74
                    try clear c76
                    try clear c77
                    try clear c79
                    try clear c81
                    try clear c83
                    try clear c86
                    try clear c88
                    try clear c90
                    try clear c92
                    try clear c95
                    try clear c97
                    try clear c99
                    try clear c101
                    try clear c104
                    try clear c106
                    try clear c108
                    try clear c110
                    try clear c112
                    try clear c114
                    try clear c116
                    try clear c118
                    try clear c120
                    try clear c122
                    try clear c124
                    try clear c127
                    try clear p2
                    obtain ⟨kq, x134_124, rfl, HA, HJ124, ⟨mc124, rfl⟩⟩ := hcut
                    cases kq with
                    | zero => exact absurd HA.out (by simp [tremaref02_Category.j11])
                    | succ kj124 =>
                     have H := HA.out
                     clear HA
                     simp only [tremaref02_Category.j11] at H
                     by_cases c129 : x134_124 = true
                     ·subst c129
                      have H1 : (some 1) = some r := by rw [if_pos rfl] at H; exact H
                      clear H
                      have H := H1
                      clear H1
                      obtain rfl := Option.some.inj H
                      go_wp2
                      go_ret
                      exact ⟨by first | rfl | (simp; done) | (simp [*]; done), by repeat (first | exact Drawn0.refl _ | apply Drawn0.step)⟩
                     ·as_aux_lemma =>
                      replace c129 := Bool.eq_false_iff.mpr c129
                      subst c129
                      have H1 : ((tremaref02_in.f a0 192 214).bind fun t251 => (if t251 = true then (some 1) else ((tremaref02_in.f a0 216 246).bind fun t252 => (if t252 = true then (some 1) else ((tremaref02_in.f a0 248 687).bind fun t253 => (if t253 = true then (tremaref02_Category.j12 kj124 a0 true) else ((tremaref02_in.f a0 902 902).bind fun t254 => (tremaref02_Category.j12 kj124 a0 t254)))))))) = some r := by rw [if_neg (show ¬ (false = true) by decide)] at H; exact H
                      clear H
                      have H := H1
                      clear H1
                      replace H := Option.bind_eq_some_iff.mp H
                      obtain ⟨t251, A1300, H⟩ := H
                      replace H : (if t251 = true then (some 1) else ((tremaref02_in.f a0 216 246).bind fun t252 => (if t252 = true then (some 1) else ((tremaref02_in.f a0 248 687).bind fun t253 => (if t253 = true then (tremaref02_Category.j12 kj124 a0 true) else ((tremaref02_in.f a0 902 902).bind fun t254 => (tremaref02_Category.j12 kj124 a0 t254))))))) = some r := H
                      have A130 := Aside0.mk A1300
                      clear A1300
                      by_cases c131 : t251 = true
                      ·subst c131
                       have H1 : (some 1) = some r := by rw [if_pos rfl] at H; exact H
                       clear H
                       have H := H1
                       clear H1
                       obtain rfl := Option.some.inj H
                       go_wp2_with (first | ((with_reducible refine gate_callee (f := 31) rfl ?_); refine goesL_ (some 148) rfl rfl Tryd.func31 (by kernel_rfl) rfl #[.int .i32 a0, .int .i32 192, .int .i32 214] rfl (by (try simp only [List.map_toArray, List.map_cons, List.map_nil]); first | done | rfl) ?_; (with_reducible refine (tremaref02_in.calls a0 192 214 true _ A130.out).mono ?_); rintro e w' ⟨rfl, ⟨nd, rfl⟩⟩; refine ⟨_, rfl, ?_⟩))
                       go_ret
                       exact ⟨by first | rfl | (simp; done) | (simp [*]; done), by repeat (first | exact Drawn0.refl _ | apply Drawn0.step)⟩
                      ·as_aux_lemma =>
                       replace c131 := Bool.eq_false_iff.mpr c131
                       subst c131
                       have H1 : ((tremaref02_in.f a0 216 246).bind fun t252 => (if t252 = true then (some 1) else ((tremaref02_in.f a0 248 687).bind fun t253 => (if t253 = true then (tremaref02_Category.j12 kj124 a0 true) else ((tremaref02_in.f a0 902 902).bind fun t254 => (tremaref02_Category.j12 kj124 a0 t254)))))) = some r := by rw [if_neg (show ¬ (false = true) by decide)] at H; exact H
                       clear H
                       have H := H1
                       clear H1
                       replace H := Option.bind_eq_some_iff.mp H
                       obtain ⟨t252, A1320, H⟩ := H
                       replace H : (if t252 = true then (some 1) else ((tremaref02_in.f a0 248 687).bind fun t253 => (if t253 = true then (tremaref02_Category.j12 kj124 a0 true) else ((tremaref02_in.f a0 902 902).bind fun t254 => (tremaref02_Category.j12 kj124 a0 t254))))) = some r := H
                       have A132 := Aside0.mk A1320
                       clear A1320
                       by_cases c133 : t252 = true
                       ·subst c133
                        have H1 : (some 1) = some r := by rw [if_pos rfl] at H; exact H
                        clear H
                        have H := H1
                        clear H1
                        obtain rfl := Option.some.inj H
                        go_wp2_with (first | ((with_reducible refine gate_callee (f := 31) rfl ?_); refine goesL_ (some 148) rfl rfl Tryd.func31 (by kernel_rfl) rfl #[.int .i32 a0, .int .i32 192, .int .i32 214] rfl (by (try simp only [List.map_toArray, List.map_cons, List.map_nil]); first | done | rfl) ?_; (with_reducible refine (tremaref02_in.calls a0 192 214 false _ A130.out).mono ?_); rintro e w' ⟨rfl, ⟨nd, rfl⟩⟩; refine ⟨_, rfl, ?_⟩) | ((with_reducible refine gate_callee (f := 31) rfl ?_); refine goesL_ (some 150) rfl rfl Tryd.func31 (by kernel_rfl) rfl #[.int .i32 a0, .int .i32 216, .int .i32 246] rfl (by (try simp only [List.map_toArray, List.map_cons, List.map_nil]); first | done | rfl) ?_; (with_reducible refine (tremaref02_in.calls a0 216 246 true _ A132.out).mono ?_); rintro e w' ⟨rfl, ⟨nd, rfl⟩⟩; refine ⟨_, rfl, ?_⟩))
                        go_ret
                        exact ⟨by first | rfl | (simp; done) | (simp [*]; done), by repeat (first | exact Drawn0.refl _ | apply Drawn0.step)⟩
                       ·as_aux_lemma =>
                        replace c133 := Bool.eq_false_iff.mpr c133
                        subst c133
                        have H1 : ((tremaref02_in.f a0 248 687).bind fun t253 => (if t253 = true then (tremaref02_Category.j12 kj124 a0 true) else ((tremaref02_in.f a0 902 902).bind fun t254 => (tremaref02_Category.j12 kj124 a0 t254)))) = some r := by rw [if_neg (show ¬ (false = true) by decide)] at H; exact H
                        clear H
                        have H := H1
                        clear H1
                        have HC134 := Aside0.mk H
                        clear H
                        go_upto_region 55 with (first | ((with_reducible refine gate_callee (f := 31) rfl ?_); refine goesL_ (some 148) rfl rfl Tryd.func31 (by kernel_rfl) rfl #[.int .i32 a0, .int .i32 192, .int .i32 214] rfl (by (try simp only [List.map_toArray, List.map_cons, List.map_nil]); first | done | rfl) ?_; (with_reducible refine (tremaref02_in.calls a0 192 214 false _ A130.out).mono ?_); rintro e w' ⟨rfl, ⟨nd, rfl⟩⟩; refine ⟨_, rfl, ?_⟩) | ((with_reducible refine gate_callee (f := 31) rfl ?_); refine goesL_ (some 150) rfl rfl Tryd.func31 (by kernel_rfl) rfl #[.int .i32 a0, .int .i32 216, .int .i32 246] rfl (by (try simp only [List.map_toArray, List.map_cons, List.map_nil]); first | done | rfl) ?_; (with_reducible refine (tremaref02_in.calls a0 216 246 false _ A132.out).mono ?_); rintro e w' ⟨rfl, ⟨nd, rfl⟩⟩; refine ⟨_, rfl, ?_⟩))
                        (try simp only [Act.put, List.setIfInBounds_toArray, List.set_cons_zero, List.set_cons_succ])
                        go_cut [134] (fun v134 wc => ∃ (kq : Nat) (x134_133 : Bool), v134 = .bool x134_133 ∧ Aside0 (tremaref02_Category.j12 kq a0 x134_133 = some r) ∧ Aside0 (kq ≤ kj124) ∧ Drawn0 w wc)
                        case first =>
                         have H := HC134.out
                         clear HC134
                         replace H := Option.bind_eq_some_iff.mp H
                         obtain ⟨t253, A1350, H⟩ := H
                         replace H : (if t253 = true then (tremaref02_Category.j12 kj124 a0 true) else ((tremaref02_in.f a0 902 902).bind fun t254 => (tremaref02_Category.j12 kj124 a0 t254))) = some r := H
                         have A135 := Aside0.mk A1350
                         clear A1350
                         by_cases c136 : t253 = true
                         ·subst c136
                          have H1 : (tremaref02_Category.j12 kj124 a0 true) = some r := by rw [if_pos rfl] at H; exact H
                          clear H
                          have H := H1
                          clear H1
                          have H' := Aside0.mk H
                          clear H
                          go_wp2_with (first | ((with_reducible refine gate_callee (f := 31) rfl ?_); refine goesL_ (some 152) rfl rfl Tryd.func31 (by kernel_rfl) rfl #[.int .i32 a0, .int .i32 248, .int .i32 687] rfl (by (try simp only [List.map_toArray, List.map_cons, List.map_nil]); first | done | rfl) ?_; (with_reducible refine (tremaref02_in.calls a0 248 687 true _ A135.out).mono ?_); rintro e w' ⟨rfl, ⟨nd, rfl⟩⟩; refine ⟨_, rfl, ?_⟩))
                          go_meet
                          case rel => exact ⟨_, (true), (by first | rfl | (simp; done) | (simp [*]; done)), H', ⟨by have := HJ2.out; have := HJ13.out; have := HJ26.out; have := HJ35.out; have := HJ77.out; have := HJ124.out; first | omega | exact Nat.le_refl _⟩, by repeat (first | exact Drawn0.refl _ | apply Drawn0.step)⟩
                         ·as_aux_lemma =>
                          replace c136 := Bool.eq_false_iff.mpr c136
                          subst c136
                          have H1 : ((tremaref02_in.f a0 902 902).bind fun t254 => (tremaref02_Category.j12 kj124 a0 t254)) = some r := by rw [if_neg (show ¬ (false = true) by decide)] at H; exact H
                          clear H
                          have H := H1
                          clear H1
                          replace H := Option.bind_eq_some_iff.mp H
                          obtain ⟨t254, A1370, H⟩ := H
                          replace H : (tremaref02_Category.j12 kj124 a0 t254) = some r := H
                          have A137 := Aside0.mk A1370
                          clear A1370
                          have H' := Aside0.mk H
                          clear H
                          go_wp2_with (first | ((with_reducible refine gate_callee (f := 31) rfl ?_); refine goesL_ (some 152) rfl rfl Tryd.func31 (by kernel_rfl) rfl #[.int .i32 a0, .int .i32 248, .int .i32 687] rfl (by (try simp only [List.map_toArray, List.map_cons, List.map_nil]); first | done | rfl) ?_; (with_reducible refine (tremaref02_in.calls a0 248 687 false _ A135.out).mono ?_); rintro e w' ⟨rfl, ⟨nd, rfl⟩⟩; refine ⟨_, rfl, ?_⟩) | (go_at_call 31; (with_reducible refine (tremaref02_in.calls a0 902 902 t254 _ A137.out).mono ?_); rintro e w' ⟨rfl, ⟨nd, rfl⟩⟩))
                          go_meet
                          case rel => exact ⟨_, (t254), (by first | rfl | (simp; done) | (simp [*]; done)), H', ⟨by have := HJ2.out; have := HJ13.out; have := HJ26.out; have := HJ35.out; have := HJ77.out; have := HJ124.out; first | omega | exact Nat.le_refl _⟩, by repeat (first | exact Drawn0.refl _ | apply Drawn0.step)⟩
                        case rest =>
                         clear HC134
                         try clear c1
                         try clear c2
                         try clear p2
                         try clear c3
                         try clear c4
                         try clear c5
                         try clear c6
                         try clear c7
                         try clear c8
                         try clear c9
                         try clear c10
                         try clear c11
                         try clear c12
                         try clear c13
                         try clear c15
                         try clear c17
                         try clear c19
                         try clear c21
                         try clear c23
                         try clear c25
                         try clear c26
                         try clear c28
                         try clear c30
                         try clear c31
                         try clear c32
                         try clear c34
                         try clear c35
                         try clear c37
                         try clear c39
                         try clear c41
                         try clear c44
                         try clear c46
                         try clear c48
                         try clear c50
                         try clear c53
                         try clear c55
                         try clear c57
                         try clear c59
                         try clear c62
                         try clear c64
                         try clear c66
                         try clear c68
                         try clear c70
                         try clear c72
                         try clear c74
                         try clear c76
                         try clear c77
                         try clear c79
                         try clear c81
                         try clear c83
                         try clear c86
                         try clear c88
                         try clear c90
                         try clear c92
                         try clear c95
                         try clear c97
                         try clear c99
                         try clear c101
                         try clear c104
                         try clear c106
                         try clear c108
                         try clear c110
                         try clear c112
                         try clear c114
                         try clear c116
                         try clear c118
                         try clear c120
                         try clear c122
                         try clear c124
                         try clear c127
                         try clear c129
                         try clear c131
                         try clear c133
                         try clear c136
                         try clear p2
                         obtain ⟨kq, x134_133, rfl, HA, HJ133, ⟨mc133, rfl⟩⟩ := hcut
                         cases kq with
                         | zero => exact absurd HA.out (by simp [tremaref02_Category.j12])
                         | succ kj133 =>
                          have H := HA.out
                          clear HA
                          simp only [tremaref02_Category.j12] at H
                          by_cases c138 : x134_133 = true
                          ·subst c138
                           have H1 : (some 1) = some r := by rw [if_pos rfl] at H; exact H
                           clear H
                           have H := H1
                           clear H1
                           obtain rfl := Option.some.inj H
                           go_wp2
                           go_ret
                           exact ⟨by first | rfl | (simp; done) | (simp [*]; done), by repeat (first | exact Drawn0.refl _ | apply Drawn0.step)⟩
                          ·as_aux_lemma =>
                           replace c138 := Bool.eq_false_iff.mpr c138
                           subst c138
                           have H1 : ((tremaref02_in.f a0 904 1023).bind fun t255 => (if t255 = true then (some 1) else ((tremaref02_in.f a0 1024 1153).bind fun t256 => (if t256 = true then (some 1) else ((tremaref02_in.f a0 1162 1327).bind fun t257 => (if t257 = true then (tremaref02_Category.j13 kj133 a0 true) else ((tremaref02_in.f a0 4352 4607).bind fun t258 => (tremaref02_Category.j13 kj133 a0 t258)))))))) = some r := by rw [if_neg (show ¬ (false = true) by decide)] at H; exact H
                           clear H
                           have H := H1
                           clear H1
                           replace H := Option.bind_eq_some_iff.mp H
                           obtain ⟨t255, A1390, H⟩ := H
                           replace H : (if t255 = true then (some 1) else ((tremaref02_in.f a0 1024 1153).bind fun t256 => (if t256 = true then (some 1) else ((tremaref02_in.f a0 1162 1327).bind fun t257 => (if t257 = true then (tremaref02_Category.j13 kj133 a0 true) else ((tremaref02_in.f a0 4352 4607).bind fun t258 => (tremaref02_Category.j13 kj133 a0 t258))))))) = some r := H
                           have A139 := Aside0.mk A1390
                           clear A1390
                           by_cases c140 : t255 = true
                           ·subst c140
                            have H1 : (some 1) = some r := by rw [if_pos rfl] at H; exact H
                            clear H
                            have H := H1
                            clear H1
                            obtain rfl := Option.some.inj H
                            go_wp2_with (first | ((with_reducible refine gate_callee (f := 31) rfl ?_); refine goesL_ (some 158) rfl rfl Tryd.func31 (by kernel_rfl) rfl #[.int .i32 a0, .int .i32 904, .int .i32 1023] rfl (by (try simp only [List.map_toArray, List.map_cons, List.map_nil]); first | done | rfl) ?_; (with_reducible refine (tremaref02_in.calls a0 904 1023 true _ A139.out).mono ?_); rintro e w' ⟨rfl, ⟨nd, rfl⟩⟩; refine ⟨_, rfl, ?_⟩))
                            go_ret
                            exact ⟨by first | rfl | (simp; done) | (simp [*]; done), by repeat (first | exact Drawn0.refl _ | apply Drawn0.step)⟩
                           ·as_aux_lemma =>
                            replace c140 := Bool.eq_false_iff.mpr c140
                            subst c140
                            have H1 : ((tremaref02_in.f a0 1024 1153).bind fun t256 => (if t256 = true then (some 1) else ((tremaref02_in.f a0 1162 1327).bind fun t257 => (if t257 = true then (tremaref02_Category.j13 kj133 a0 true) else ((tremaref02_in.f a0 4352 4607).bind fun t258 => (tremaref02_Category.j13 kj133 a0 t258)))))) = some r := by rw [if_neg (show ¬ (false = true) by decide)] at H; exact H
                            clear H
                            have H := H1
                            clear H1
                            replace H := Option.bind_eq_some_iff.mp H
                            obtain ⟨t256, A1410, H⟩ := H
                            replace H : (if t256 = true then (some 1) else ((tremaref02_in.f a0 1162 1327).bind fun t257 => (if t257 = true then (tremaref02_Category.j13 kj133 a0 true) else ((tremaref02_in.f a0 4352 4607).bind fun t258 => (tremaref02_Category.j13 kj133 a0 t258))))) = some r := H
                            have A141 := Aside0.mk A1410
                            clear A1410
                            by_cases c142 : t256 = true
                            ·subst c142
                             have H1 : (some 1) = some r := by rw [if_pos rfl] at H; exact H
                             clear H
                             have H := H1
                             clear H1
                             obtain rfl := Option.some.inj H
                             go_wp2_with (first | ((with_reducible refine gate_callee (f := 31) rfl ?_); refine goesL_ (some 158) rfl rfl Tryd.func31 (by kernel_rfl) rfl #[.int .i32 a0, .int .i32 904, .int .i32 1023] rfl (by (try simp only [List.map_toArray, List.map_cons, List.map_nil]); first | done | rfl) ?_; (with_reducible refine (tremaref02_in.calls a0 904 1023 false _ A139.out).mono ?_); rintro e w' ⟨rfl, ⟨nd, rfl⟩⟩; refine ⟨_, rfl, ?_⟩) | ((with_reducible refine gate_callee (f := 31) rfl ?_); refine goesL_ (some 160) rfl rfl Tryd.func31 (by kernel_rfl) rfl #[.int .i32 a0, .int .i32 1024, .int .i32 1153] rfl (by (try simp only [List.map_toArray, List.map_cons, List.map_nil]); first | done | rfl) ?_; (with_reducible refine (tremaref02_in.calls a0 1024 1153 true _ A141.out).mono ?_); rintro e w' ⟨rfl, ⟨nd, rfl⟩⟩; refine ⟨_, rfl, ?_⟩))
                             go_ret
                             exact ⟨by first | rfl | (simp; done) | (simp [*]; done), by repeat (first | exact Drawn0.refl _ | apply Drawn0.step)⟩
                            ·as_aux_lemma =>
                             replace c142 := Bool.eq_false_iff.mpr c142
                             subst c142
                             have H1 : ((tremaref02_in.f a0 1162 1327).bind fun t257 => (if t257 = true then (tremaref02_Category.j13 kj133 a0 true) else ((tremaref02_in.f a0 4352 4607).bind fun t258 => (tremaref02_Category.j13 kj133 a0 t258)))) = some r := by rw [if_neg (show ¬ (false = true) by decide)] at H; exact H
                             clear H
                             have H := H1
                             clear H1
                             have HC143 := Aside0.mk H
                             clear H
                             go_upto_region 58 with (first | ((with_reducible refine gate_callee (f := 31) rfl ?_); refine goesL_ (some 158) rfl rfl Tryd.func31 (by kernel_rfl) rfl #[.int .i32 a0, .int .i32 904, .int .i32 1023] rfl (by (try simp only [List.map_toArray, List.map_cons, List.map_nil]); first | done | rfl) ?_; (with_reducible refine (tremaref02_in.calls a0 904 1023 false _ A139.out).mono ?_); rintro e w' ⟨rfl, ⟨nd, rfl⟩⟩; refine ⟨_, rfl, ?_⟩) | ((with_reducible refine gate_callee (f := 31) rfl ?_); refine goesL_ (some 160) rfl rfl Tryd.func31 (by kernel_rfl) rfl #[.int .i32 a0, .int .i32 1024, .int .i32 1153] rfl (by (try simp only [List.map_toArray, List.map_cons, List.map_nil]); first | done | rfl) ?_; (with_reducible refine (tremaref02_in.calls a0 1024 1153 false _ A141.out).mono ?_); rintro e w' ⟨rfl, ⟨nd, rfl⟩⟩; refine ⟨_, rfl, ?_⟩))
                             (try simp only [Act.put, List.setIfInBounds_toArray, List.set_cons_zero, List.set_cons_succ])
                             go_cut [134] (fun v134 wc => ∃ (kq : Nat) (x134_142 : Bool), v134 = .bool x134_142 ∧ Aside0 (tremaref02_Category.j13 kq a0 x134_142 = some r) ∧ Aside0 (kq ≤ kj133) ∧ Drawn0 w wc)
                             case first =>
                              have H := HC143.out
                              clear HC143
                              replace H := Option.bind_eq_some_iff.mp H
                              obtain ⟨t257, A1440, H⟩ := H
                              replace H : (if t257 = true then (tremaref02_Category.j13 kj133 a0 true) else ((tremaref02_in.f a0 4352 4607).bind fun t258 => (tremaref02_Category.j13 kj133 a0 t258))) = some r := H
                              have A144 := Aside0.mk A1440
                              clear A1440
                              by_cases c145 : t257 = true
                              ·subst c145
                               have H1 : (tremaref02_Category.j13 kj133 a0 true) = some r := by rw [if_pos rfl] at H; exact H
                               clear H
                               have H := H1
                               clear H1
                               have H' := Aside0.mk H
                               clear H
                               go_wp2_with (first | ((with_reducible refine gate_callee (f := 31) rfl ?_); refine goesL_ (some 162) rfl rfl Tryd.func31 (by kernel_rfl) rfl #[.int .i32 a0, .int .i32 1162, .int .i32 1327] rfl (by (try simp only [List.map_toArray, List.map_cons, List.map_nil]); first | done | rfl) ?_; (with_reducible refine (tremaref02_in.calls a0 1162 1327 true _ A144.out).mono ?_); rintro e w' ⟨rfl, ⟨nd, rfl⟩⟩; refine ⟨_, rfl, ?_⟩))
                               go_meet
                               case rel => exact ⟨_, (true), (by first | rfl | (simp; done) | (simp [*]; done)), H', ⟨by have := HJ2.out; have := HJ13.out; have := HJ26.out; have := HJ35.out; have := HJ77.out; have := HJ124.out; have := HJ133.out; first | omega | exact Nat.le_refl _⟩, by repeat (first | exact Drawn0.refl _ | apply Drawn0.step)⟩
                              ·as_aux_lemma =>
                               replace c145 := Bool.eq_false_iff.mpr c145
                               subst c145
                               have H1 : ((tremaref02_in.f a0 4352 4607).bind fun t258 => (tremaref02_Category.j13 kj133 a0 t258)) = some r := by rw [if_neg (show ¬ (false = true) by decide)] at H; exact H
                               clear H
                               have H := H1
                               clear H1
                               replace H := Option.bind_eq_some_iff.mp H
                               obtain ⟨t258, A1460, H⟩ := H
                               replace H : (tremaref02_Category.j13 kj133 a0 t258) = some r := H
                               have A146 := Aside0.mk A1460
                               clear A1460
                               have H' := Aside0.mk H
                               clear H
                               go_wp2_with (first | ((with_reducible refine gate_callee (f := 31) rfl ?_); refine goesL_ (some 162) rfl rfl Tryd.func31 (by kernel_rfl) rfl #[.int .i32 a0, .int .i32 1162, .int .i32 1327] rfl (by (try simp only [List.map_toArray, List.map_cons, List.map_nil]); first | done | rfl) ?_; (with_reducible refine (tremaref02_in.calls a0 1162 1327 false _ A144.out).mono ?_); rintro e w' ⟨rfl, ⟨nd, rfl⟩⟩; refine ⟨_, rfl, ?_⟩) | (go_at_call 31; (with_reducible refine (tremaref02_in.calls a0 4352 4607 t258 _ A146.out).mono ?_); rintro e w' ⟨rfl, ⟨nd, rfl⟩⟩))
                               go_meet
                               case rel => exact ⟨_, (t258), (by first | rfl | (simp; done) | (simp [*]; done)), H', ⟨by have := HJ2.out; have := HJ13.out; have := HJ26.out; have := HJ35.out; have := HJ77.out; have := HJ124.out; have := HJ133.out; first | omega | exact Nat.le_refl _⟩, by repeat (first | exact Drawn0.refl _ | apply Drawn0.step)⟩
                             case rest =>
                              clear HC143
                              try clear c1
                              try clear c2
                              try clear p2
                              try clear c3
                              try clear c4
                              try clear c5
                              try clear c6
                              try clear c7
                              try clear c8
                              try clear c9
                              try clear c10
                              try clear c11
                              try clear c12
                              try clear c13
                              try clear c14
                              try clear c15
                              try clear c17
                              try clear c19
                              try clear c21
                              try clear c23
                              try clear c25
                              try clear c26
                              try clear c28
                              try clear c30
                              try clear c31
                              try clear c32
                              try clear c34
                              try clear c35
                              try clear c37
                              try clear c39
                              try clear c41
                              try clear c44
                              try clear c46
                              try clear c48
                              try clear c50
                              try clear c53
                              try clear c55
                              try clear c57
                              try clear c59
                              try clear c62
                              try clear c64
                              try clear c66
                              try clear c68
                              try clear c70
                              try clear c72
                              try clear c74
                              try clear c76
                              try clear c77
                              try clear c79
                              try clear c81
                              try clear c83
                              try clear c86
                              try clear c88
                              try clear c90
                              try clear c92
                              try clear c95
                              try clear c97
                              try clear c99
                              try clear c101
                              try clear c104
                              try clear c106
                              try clear c108
                              try clear c110
                              try clear c112
                              try clear c114
                              try clear c116
                              try clear c118
                              try clear c120
                              try clear c122
                              try clear c124
                              try clear c127
                              try clear c129
                              try clear c131
                              try clear c133
                              try clear c136
                              try clear c138
                              try clear c140
                              try clear c142
                              try clear c145
                              try clear p2
                              obtain ⟨kq, x134_142, rfl, HA, HJ142, ⟨mc142, rfl⟩⟩ := hcut
                              cases kq with
                              | zero => exact absurd HA.out (by simp [tremaref02_Category.j13])
                              | succ kj142 =>
                               have H := HA.out
                               clear HA
                               simp only [tremaref02_Category.j13] at H
                               by_cases c147 : x134_142 = true
                               ·subst c147
                                have H1 : (some 1) = some r := by rw [if_pos rfl] at H; exact H
                                clear H
                                have H := H1
                                clear H1
                                obtain rfl := Option.some.inj H
                                go_wp2
                                go_ret
                                exact ⟨by first | rfl | (simp; done) | (simp [*]; done), by repeat (first | exact Drawn0.refl _ | apply Drawn0.step)⟩
                               ·as_aux_lemma =>
                                replace c147 := Bool.eq_false_iff.mpr c147
                                subst c147
                                have H1 : ((tremaref02_in.f a0 7680 8124).bind fun t259 => (if t259 = true then (some 1) else ((tremaref02_in.f a0 8486 8486).bind fun t260 => (if t260 = true then (some 1) else ((tremaref02_in.f a0 8490 8491).bind fun t261 => (if t261 = true then (some 1) else ((tremaref02_in.f a0 12353 12438).bind fun t262 => (if t262 = true then (some 1) else ((tremaref02_in.f a0 12449 12538).bind fun t263 => (if t263 = true then (some 1) else ((tremaref02_in.f a0 19968 40959).bind fun t264 => (if t264 = true then (some 1) else ((tremaref02_in.f a0 44032 55203).bind fun t265 => (if t265 = true then (some 1) else (some 7))))))))))))))) = some r := by rw [if_neg (show ¬ (false = true) by decide)] at H; exact H
                                clear H
                                have H := H1
                                clear H1
                                replace H := Option.bind_eq_some_iff.mp H
                                obtain ⟨t259, A1480, H⟩ := H
                                replace H : (if t259 = true then (some 1) else ((tremaref02_in.f a0 8486 8486).bind fun t260 => (if t260 = true then (some 1) else ((tremaref02_in.f a0 8490 8491).bind fun t261 => (if t261 = true then (some 1) else ((tremaref02_in.f a0 12353 12438).bind fun t262 => (if t262 = true then (some 1) else ((tremaref02_in.f a0 12449 12538).bind fun t263 => (if t263 = true then (some 1) else ((tremaref02_in.f a0 19968 40959).bind fun t264 => (if t264 = true then (some 1) else ((tremaref02_in.f a0 44032 55203).bind fun t265 => (if t265 = true then (some 1) else (some 7)))))))))))))) = some r := H
                                have A148 := Aside0.mk A1480
                                clear A1480
                                by_cases c149 : t259 = true
                                ·subst c149
                                 have H1 : (some 1) = some r := by rw [if_pos rfl] at H; exact H
                                 clear H
                                 have H := H1
                                 clear H1
                                 obtain rfl := Option.some.inj H
                                 go_wp2_with (first | ((with_reducible refine gate_callee (f := 31) rfl ?_); refine goesL_ (some 168) rfl rfl Tryd.func31 (by kernel_rfl) rfl #[.int .i32 a0, .int .i32 7680, .int .i32 8124] rfl (by (try simp only [List.map_toArray, List.map_cons, List.map_nil]); first | done | rfl) ?_; (with_reducible refine (tremaref02_in.calls a0 7680 8124 true _ A148.out).mono ?_); rintro e w' ⟨rfl, ⟨nd, rfl⟩⟩; refine ⟨_, rfl, ?_⟩))
                                 go_ret
                                 exact ⟨by first | rfl | (simp; done) | (simp [*]; done), by repeat (first | exact Drawn0.refl _ | apply Drawn0.step)⟩
                                ·as_aux_lemma =>
                                 replace c149 := Bool.eq_false_iff.mpr c149
                                 subst c149
                                 have H1 : ((tremaref02_in.f a0 8486 8486).bind fun t260 => (if t260 = true then (some 1) else ((tremaref02_in.f a0 8490 8491).bind fun t261 => (if t261 = true then (some 1) else ((tremaref02_in.f a0 12353 12438).bind fun t262 => (if t262 = true then (some 1) else ((tremaref02_in.f a0 12449 12538).bind fun t263 => (if t263 = true then (some 1) else ((tremaref02_in.f a0 19968 40959).bind fun t264 => (if t264 = true then (some 1) else ((tremaref02_in.f a0 44032 55203).bind fun t265 => (if t265 = true then (some 1) else (some 7))))))))))))) = some r := by rw [if_neg (show ¬ (false = true) by decide)] at H; exact H
                                 clear H
                                 have H := H1
                                 clear H1
                                 replace H := Option.bind_eq_some_iff.mp H
                                 obtain ⟨t260, A1500, H⟩ := H
                                 replace H : (if t260 = true then (some 1) else ((tremaref02_in.f a0 8490 8491).bind fun t261 => (if t261 = true then (some 1) else ((tremaref02_in.f a0 12353 12438).bind fun t262 => (if t262 = true then (some 1) else ((tremaref02_in.f a0 12449 12538).bind fun t263 => (if t263 = true then (some 1) else ((tremaref02_in.f a0 19968 40959).bind fun t264 => (if t264 = true then (some 1) else ((tremaref02_in.f a0 44032 55203).bind fun t265 => (if t265 = true then (some 1) else (some 7)))))))))))) = some r := H
                                 have A150 := Aside0.mk A1500
                                 clear A1500
                                 by_cases c151 : t260 = true
                                 ·subst c151
                                  have H1 : (some 1) = some r := by rw [if_pos rfl] at H; exact H
                                  clear H
                                  have H := H1
                                  clear H1
                                  obtain rfl := Option.some.inj H
                                  go_wp2_with (first | ((with_reducible refine gate_callee (f := 31) rfl ?_); refine goesL_ (some 168) rfl rfl Tryd.func31 (by kernel_rfl) rfl #[.int .i32 a0, .int .i32 7680, .int .i32 8124] rfl (by (try simp only [List.map_toArray, List.map_cons, List.map_nil]); first | done | rfl) ?_; (with_reducible refine (tremaref02_in.calls a0 7680 8124 false _ A148.out).mono ?_); rintro e w' ⟨rfl, ⟨nd, rfl⟩⟩; refine ⟨_, rfl, ?_⟩) | ((with_reducible refine gate_callee (f := 31) rfl ?_); refine goesL_ (some 170) rfl rfl Tryd.func31 (by kernel_rfl) rfl #[.int .i32 a0, .int .i32 8486, .int .i32 8486] rfl (by (try simp only [List.map_toArray, List.map_cons, List.map_nil]); first | done | rfl) ?_; (with_reducible refine (tremaref02_in.calls a0 8486 8486 true _ A150.out).mono ?_); rintro e w' ⟨rfl, ⟨nd, rfl⟩⟩; refine ⟨_, rfl, ?_⟩))
                                  go_ret
                                  exact ⟨by first | rfl | (simp; done) | (simp [*]; done), by repeat (first | exact Drawn0.refl _ | apply Drawn0.step)⟩
                                 ·as_aux_lemma =>
                                  replace c151 := Bool.eq_false_iff.mpr c151
                                  subst c151
                                  have H1 : ((tremaref02_in.f a0 8490 8491).bind fun t261 => (if t261 = true then (some 1) else ((tremaref02_in.f a0 12353 12438).bind fun t262 => (if t262 = true then (some 1) else ((tremaref02_in.f a0 12449 12538).bind fun t263 => (if t263 = true then (some 1) else ((tremaref02_in.f a0 19968 40959).bind fun t264 => (if t264 = true then (some 1) else ((tremaref02_in.f a0 44032 55203).bind fun t265 => (if t265 = true then (some 1) else (some 7))))))))))) = some r := by rw [if_neg (show ¬ (false = true) by decide)] at H; exact H
                                  clear H
                                  have H := H1
                                  clear H1
                                  replace H := Option.bind_eq_some_iff.mp H
                                  obtain ⟨t261, A1520, H⟩ := H
                                  replace H : (if t261 = true then (some 1) else ((tremaref02_in.f a0 12353 12438).bind fun t262 => (if t262 = true then (some 1) else ((tremaref02_in.f a0 12449 12538).bind fun t263 => (if t263 = true then (some 1) else ((tremaref02_in.f a0 19968 40959).bind fun t264 => (if t264 = true then (some 1) else ((tremaref02_in.f a0 44032 55203).bind fun t265 => (if t265 = true then (some 1) else (some 7)))))))))) = some r := H
                                  have A152 := Aside0.mk A1520
                                  clear A1520
                                  by_cases c153 : t261 = true
                                  ·subst c153
                                   have H1 : (some 1) = some r := by rw [if_pos rfl] at H; exact H
                                   clear H
                                   have H := H1
                                   clear H1
                                   obtain rfl := Option.some.inj H
                                   go_wp2_with (first | ((with_reducible refine gate_callee (f := 31) rfl ?_); refine goesL_ (some 168) rfl rfl Tryd.func31 (by kernel_rfl) rfl #[.int .i32 a0, .int .i32 7680, .int .i32 8124] rfl (by (try simp only [List.map_toArray, List.map_cons, List.map_nil]); first | done | rfl) ?_; (with_reducible refine (tremaref02_in.calls a0 7680 8124 false _ A148.out).mono ?_); rintro e w' ⟨rfl, ⟨nd, rfl⟩⟩; refine ⟨_, rfl, ?_⟩) | ((with_reducible refine gate_callee (f := 31) rfl ?_); refine goesL_ (some 170) rfl rfl Tryd.func31 (by kernel_rfl) rfl #[.int .i32 a0, .int .i32 8486, .int .i32 8486] rfl (by (try simp only [List.map_toArray, List.map_cons, List.map_nil]); first | done | rfl) ?_; (with_reducible refine (tremaref02_in.calls a0 8486 8486 false _ A150.out).mono ?_); rintro e w' ⟨rfl, ⟨nd, rfl⟩⟩; refine ⟨_, rfl, ?_⟩) | ((with_reducible refine gate_callee (f := 31) rfl ?_); refine goesL_ (some 172) rfl rfl Tryd.func31 (by kernel_rfl) rfl #[.int .i32 a0, .int .i32 8490, .int .i32 8491] rfl (by (try simp only [List.map_toArray, List.map_cons, List.map_nil]); first | done | rfl) ?_; (with_reducible refine (tremaref02_in.calls a0 8490 8491 true _ A152.out).mono ?_); rintro e w' ⟨rfl, ⟨nd, rfl⟩⟩; refine ⟨_, rfl, ?_⟩))
                                   go_ret
                                   exact ⟨by first | rfl | (simp; done) | (simp [*]; done), by repeat (first | exact Drawn0.refl _ | apply Drawn0.step)⟩
                                  ·as_aux_lemma =>
                                   replace c153 := Bool.eq_false_iff.mpr c153
                                   subst c153
                                   have H1 : ((tremaref02_in.f a0 12353 12438).bind fun t262 => (if t262 = true then (some 1) else ((tremaref02_in.f a0 12449 12538).bind fun t263 => (if t263 = true then (some 1) else ((tremaref02_in.f a0 19968 40959).bind fun t264 => (if t264 = true then (some 1) else ((tremaref02_in.f a0 44032 55203).bind fun t265 => (if t265 = true then (some 1) else (some 7))))))))) = some r := by rw [if_neg (show ¬ (false = true) by decide)] at H; exact H
                                   clear H
                                   have H := H1
                                   clear H1
                                   replace H := Option.bind_eq_some_iff.mp H
                                   obtain ⟨t262, A1540, H⟩ := H
                                   replace H : (if t262 = true then (some 1) else ((tremaref02_in.f a0 12449 12538).bind fun t263 => (if t263 = true then (some 1) else ((tremaref02_in.f a0 19968 40959).bind fun t264 => (if t264 = true then (some 1) else ((tremaref02_in.f a0 44032 55203).bind fun t265 => (if t265 = true then (some 1) else (some 7)))))))) = some r := H
                                   have A154 := Aside0.mk A1540
                                   clear A1540
                                   by_cases c155 : t262 = true
                                   ·subst c155
                                    have H1 : (some 1) = some r := by rw [if_pos rfl] at H; exact H
                                    clear H
                                    have H := H1
                                    clear H1
                                    obtain rfl := Option.some.inj H
                                    go_wp2_with (first | ((with_reducible refine gate_callee (f := 31) rfl ?_); refine goesL_ (some 168) rfl rfl Tryd.func31 (by kernel_rfl) rfl #[.int .i32 a0, .int .i32 7680, .int .i32 8124] rfl (by (try simp only [List.map_toArray, List.map_cons, List.map_nil]); first | done | rfl) ?_; (with_reducible refine (tremaref02_in.calls a0 7680 8124 false _ A148.out).mono ?_); rintro e w' ⟨rfl, ⟨nd, rfl⟩⟩; refine ⟨_, rfl, ?_⟩) | ((with_reducible refine gate_callee (f := 31) rfl ?_); refine goesL_ (some 170) rfl rfl Tryd.func31 (by kernel_rfl) rfl #[.int .i32 a0, .int .i32 8486, .int .i32 8486] rfl (by (try simp only [List.map_toArray, List.map_cons, List.map_nil]); first | done | rfl) ?_; (with_reducible refine (tremaref02_in.calls a0 8486 8486 false _ A150.out).mono ?_); rintro e w' ⟨rfl, ⟨nd, rfl⟩⟩; refine ⟨_, rfl, ?_⟩) | ((with_reducible refine gate_callee (f := 31) rfl ?_); refine goesL_ (some 172) rfl rfl Tryd.func31 (by kernel_rfl) rfl #[.int .i32 a0, .int .i32 8490, .int .i32 8491] rfl (by (try simp only [List.map_toArray, List.map_cons, List.map_nil]); first | done | rfl) ?_; (with_reducible refine (tremaref02_in.calls a0 8490 8491 false _ A152.out).mono ?_); rintro e w' ⟨rfl, ⟨nd, rfl⟩⟩; refine ⟨_, rfl, ?_⟩) | (go_at_call 31; (with_reducible refine (tremaref02_in.calls a0 12353 12438 true _ A154.out).mono ?_); rintro e w' ⟨rfl, ⟨nd, rfl⟩⟩))
                                    go_ret
                                    exact ⟨by first | rfl | (simp; done) | (simp [*]; done), by repeat (first | exact Drawn0.refl _ | apply Drawn0.step)⟩
                                   ·as_aux_lemma =>
                                    replace c155 := Bool.eq_false_iff.mpr c155
                                    subst c155
                                    have H1 : ((tremaref02_in.f a0 12449 12538).bind fun t263 => (if t263 = true then (some 1) else ((tremaref02_in.f a0 19968 40959).bind fun t264 => (if t264 = true then (some 1) else ((tremaref02_in.f a0 44032 55203).bind fun t265 => (if t265 = true then (some 1) else (some 7))))))) = some r := by rw [if_neg (show ¬ (false = true) by decide)] at H; exact H
                                    clear H
                                    have H := H1
                                    clear H1
                                    replace H := Option.bind_eq_some_iff.mp H
                                    obtain ⟨t263, A1560, H⟩ := H
                                    replace H : (if t263 = true then (some 1) else ((tremaref02_in.f a0 19968 40959).bind fun t264 => (if t264 = true then (some 1) else ((tremaref02_in.f a0 44032 55203).bind fun t265 => (if t265 = true then (some 1) else (some 7)))))) = some r := H
                                    have A156 := Aside0.mk A1560
                                    clear A1560
                                    by_cases c157 : t263 = true
                                    ·subst c157
                                     have H1 : (some 1) = some r := by rw [if_pos rfl] at H; exact H
                                     clear H
                                     have H := H1
                                     clear H1
                                     obtain rfl := Option.some.inj H
                                     go_wp2_with (first | ((with_reducible refine gate_callee (f := 31) rfl ?_); refine goesL_ (some 168) rfl rfl Tryd.func31 (by kernel_rfl) rfl #[.int .i32 a0, .int .i32 7680, .int .i32 8124] rfl (by (try simp only [List.map_toArray, List.map_cons, List.map_nil]); first | done | rfl) ?_; (with_reducible refine (tremaref02_in.calls a0 7680 8124 false _ A148.out).mono ?_); rintro e w' ⟨rfl, ⟨nd, rfl⟩⟩; refine ⟨_, rfl, ?_⟩) | ((with_reducible refine gate_callee (f := 31) rfl ?_); refine goesL_ (some 170) rfl rfl Tryd.func31 (by kernel_rfl) rfl #[.int .i32 a0, .int .i32 8486, .int .i32 8486] rfl (by (try simp only [List.map_toArray, List.map_cons, List.map_nil]); first | done | rfl) ?_; (with_reducible refine (tremaref02_in.calls a0 8486 8486 false _ A150.out).mono ?_); rintro e w' ⟨rfl, ⟨nd, rfl⟩⟩; refine ⟨_, rfl, ?_⟩) | ((with_reducible refine gate_callee (f := 31) rfl ?_); refine goesL_ (some 172) rfl rfl Tryd.func31 (by kernel_rfl) rfl #[.int .i32 a0, .int .i32 8490, .int .i32 8491] rfl (by (try simp only [List.map_toArray, List.map_cons, List.map_nil]); first | done | rfl) ?_; (with_reducible refine (tremaref02_in.calls a0 8490 8491 false _ A152.out).mono ?_); rintro e w' ⟨rfl, ⟨nd, rfl⟩⟩; refine ⟨_, rfl, ?_⟩) | (go_at_call 31; (with_reducible refine (tremaref02_in.calls a0 12353 12438 false _ A154.out).mono ?_); rintro e w' ⟨rfl, ⟨nd, rfl⟩⟩) | ((with_reducible refine gate_callee (f := 31) rfl ?_); refine goesL_ (some 178) rfl rfl Tryd.func31 (by kernel_rfl) rfl #[.int .i32 a0, .int .i32 12449, .int .i32 12538] rfl (by (try simp only [List.map_toArray, List.map_cons, List.map_nil]); first | done | rfl) ?_; (with_reducible refine (tremaref02_in.calls a0 12449 12538 true _ A156.out).mono ?_); rintro e w' ⟨rfl, ⟨nd, rfl⟩⟩; refine ⟨_, rfl, ?_⟩))
                                     go_ret
                                     exact ⟨by first | rfl | (simp; done) | (simp [*]; done), by repeat (first | exact Drawn0.refl _ | apply Drawn0.step)⟩
                                    ·as_aux_lemma =>
                                     replace c157 := Bool.eq_false_iff.mpr c157
                                     subst c157
                                     have H1 : ((tremaref02_in.f a0 19968 40959).bind fun t264 => (if t264 = true then (some 1) else ((tremaref02_in.f a0 44032 55203).bind fun t265 => (if t265 = true then (some 1) else (some 7))))) = some r := by rw [if_neg (show ¬ (false = true) by decide)] at H; exact H
                                     clear H
                                     have H := H1
                                     clear H1
                                     replace H := Option.bind_eq_some_iff.mp H
                                     obtain ⟨t264, A1580, H⟩ := H
                                     replace H : (if t264 = true then (some 1) else ((tremaref02_in.f a0 44032 55203).bind fun t265 => (if t265 = true then (some 1) else (some 7)))) = some r := H
                                     have A158 := Aside0.mk A1580
                                     clear A1580
                                     by_cases c159 : t264 = true
                                     ·subst c159
                                      have H1 : (some 1) = some r := by rw [if_pos rfl] at H; exact H
                                      clear H
                                      have H := H1
                                      clear H1
                                      obtain rfl := Option.some.inj H
                                      go_wp2_with (first | ((with_reducible refine gate_callee (f := 31) rfl ?_); refine goesL_ (some 168) rfl rfl Tryd.func31 (by kernel_rfl) rfl #[.int .i32 a0, .int .i32 7680, .int .i32 8124] rfl (by (try simp only [List.map_toArray, List.map_cons, List.map_nil]); first | done | rfl) ?_; (with_reducible refine (tremaref02_in.calls a0 7680 8124 false _ A148.out).mono ?_); rintro e w' ⟨rfl, ⟨nd, rfl⟩⟩; refine ⟨_, rfl, ?_⟩) | ((with_reducible refine gate_callee (f := 31) rfl ?_); refine goesL_ (some 170) rfl rfl Tryd.func31 (by kernel_rfl) rfl #[.int .i32 a0, .int .i32 8486, .int .i32 8486] rfl (by (try simp only [List.map_toArray, List.map_cons, List.map_nil]); first | done | rfl) ?_; (with_reducible refine (tremaref02_in.calls a0 8486 8486 false _ A150.out).mono ?_); rintro e w' ⟨rfl, ⟨nd, rfl⟩⟩; refine ⟨_, rfl, ?_⟩) | ((with_reducible refine gate_callee (f := 31) rfl ?_); refine goesL_ (some 172) rfl rfl Tryd.func31 (by kernel_rfl) rfl #[.int .i32 a0, .int .i32 8490, .int .i32 8491] rfl (by (try simp only [List.map_toArray, List.map_cons, List.map_nil]); first | done | rfl) ?_; (with_reducible refine (tremaref02_in.calls a0 8490 8491 false _ A152.out).mono ?_); rintro e w' ⟨rfl, ⟨nd, rfl⟩⟩; refine ⟨_, rfl, ?_⟩) | (go_at_call 31; (with_reducible refine (tremaref02_in.calls a0 12353 12438 false _ A154.out).mono ?_); rintro e w' ⟨rfl, ⟨nd, rfl⟩⟩) | ((with_reducible refine gate_callee (f := 31) rfl ?_); refine goesL_ (some 178) rfl rfl Tryd.func31 (by kernel_rfl) rfl #[.int .i32 a0, .int .i32 12449, .int .i32 12538] rfl (by (try simp only [List.map_toArray, List.map_cons, List.map_nil]); first | done | rfl) ?_; (with_reducible refine (tremaref02_in.calls a0 12449 12538 false _ A156.out).mono ?_); rintro e w' ⟨rfl, ⟨nd, rfl⟩⟩; refine ⟨_, rfl, ?_⟩) | ((with_reducible refine gate_callee (f := 31) rfl ?_); refine goesL_ (some 180) rfl rfl Tryd.func31 (by kernel_rfl) rfl #[.int .i32 a0, .int .i32 19968, .int .i32 40959] rfl (by (try simp only [List.map_toArray, List.map_cons, List.map_nil]); first | done | rfl) ?_; (with_reducible refine (tremaref02_in.calls a0 19968 40959 true _ A158.out).mono ?_); rintro e w' ⟨rfl, ⟨nd, rfl⟩⟩; refine ⟨_, rfl, ?_⟩))
                                      go_ret
                                      exact ⟨by first | rfl | (simp; done) | (simp [*]; done), by repeat (first | exact Drawn0.refl _ | apply Drawn0.step)⟩
                                     ·as_aux_lemma =>
                                      replace c159 := Bool.eq_false_iff.mpr c159
                                      subst c159
                                      have H1 : ((tremaref02_in.f a0 44032 55203).bind fun t265 => (if t265 = true then (some 1) else (some 7))) = some r := by rw [if_neg (show ¬ (false = true) by decide)] at H; exact H
                                      clear H
                                      have H := H1
                                      clear H1
                                      replace H := Option.bind_eq_some_iff.mp H
                                      obtain ⟨t265, A1600, H⟩ := H
                                      replace H : (if t265 = true then (some 1) else (some 7)) = some r := H
                                      have A160 := Aside0.mk A1600
                                      clear A1600
                                      by_cases c161 : t265 = true
                                      ·subst c161
                                       have H1 : (some 1) = some r := by rw [if_pos rfl] at H; exact H
                                       clear H
                                       have H := H1
                                       clear H1
                                       obtain rfl := Option.some.inj H
                                       go_wp2_with (first | ((with_reducible refine gate_callee (f := 31) rfl ?_); refine goesL_ (some 168) rfl rfl Tryd.func31 (by kernel_rfl) rfl #[.int .i32 a0, .int .i32 7680, .int .i32 8124] rfl (by (try simp only [List.map_toArray, List.map_cons, List.map_nil]); first | done | rfl) ?_; (with_reducible refine (tremaref02_in.calls a0 7680 8124 false _ A148.out).mono ?_); rintro e w' ⟨rfl, ⟨nd, rfl⟩⟩; refine ⟨_, rfl, ?_⟩) | ((with_reducible refine gate_callee (f := 31) rfl ?_); refine goesL_ (some 170) rfl rfl Tryd.func31 (by kernel_rfl) rfl #[.int .i32 a0, .int .i32 8486, .int .i32 8486] rfl (by (try simp only [List.map_toArray, List.map_cons, List.map_nil]); first | done | rfl) ?_; (with_reducible refine (tremaref02_in.calls a0 8486 8486 false _ A150.out).mono ?_); rintro e w' ⟨rfl, ⟨nd, rfl⟩⟩; refine ⟨_, rfl, ?_⟩) | ((with_reducible refine gate_callee (f := 31) rfl ?_); refine goesL_ (some 172) rfl rfl Tryd.func31 (by kernel_rfl) rfl #[.int .i32 a0, .int .i32 8490, .int .i32 8491] rfl (by (try simp only [List.map_toArray, List.map_cons, List.map_nil]); first | done | rfl) ?_; (with_reducible refine (tremaref02_in.calls a0 8490 8491 false _ A152.out).mono ?_); rintro e w' ⟨rfl, ⟨nd, rfl⟩⟩; refine ⟨_, rfl, ?_⟩) | (go_at_call 31; (with_reducible refine (tremaref02_in.calls a0 12353 12438 false _ A154.out).mono ?_); rintro e w' ⟨rfl, ⟨nd, rfl⟩⟩) | ((with_reducible refine gate_callee (f := 31) rfl ?_); refine goesL_ (some 178) rfl rfl Tryd.func31 (by kernel_rfl) rfl #[.int .i32 a0, .int .i32 12449, .int .i32 12538] rfl (by (try simp only [List.map_toArray, List.map_cons, List.map_nil]); first | done | rfl) ?_; (with_reducible refine (tremaref02_in.calls a0 12449 12538 false _ A156.out).mono ?_); rintro e w' ⟨rfl, ⟨nd, rfl⟩⟩; refine ⟨_, rfl, ?_⟩) | ((with_reducible refine gate_callee (f := 31) rfl ?_); refine goesL_ (some 180) rfl rfl Tryd.func31 (by kernel_rfl) rfl #[.int .i32 a0, .int .i32 19968, .int .i32 40959] rfl (by (try simp only [List.map_toArray, List.map_cons, List.map_nil]); first | done | rfl) ?_; (with_reducible refine (tremaref02_in.calls a0 19968 40959 false _ A158.out).mono ?_); rintro e w' ⟨rfl, ⟨nd, rfl⟩⟩; refine ⟨_, rfl, ?_⟩) | ((with_reducible refine gate_callee (f := 31) rfl ?_); refine goesL_ (some 182) rfl rfl Tryd.func31 (by kernel_rfl) rfl #[.int .i32 a0, .int .i32 44032, .int .i32 55203] rfl (by (try simp only [List.map_toArray, List.map_cons, List.map_nil]); first | done | rfl) ?_; (with_reducible refine (tremaref02_in.calls a0 44032 55203 true _ A160.out).mono ?_); rintro e w' ⟨rfl, ⟨nd, rfl⟩⟩; refine ⟨_, rfl, ?_⟩))
                                       go_ret
                                       exact ⟨by first | rfl | (simp; done) | (simp [*]; done), by repeat (first | exact Drawn0.refl _ | apply Drawn0.step)⟩
                                      ·as_aux_lemma =>
                                       replace c161 := Bool.eq_false_iff.mpr c161
                                       subst c161
                                       have H1 : (some 7) = some r := by rw [if_neg (show ¬ (false = true) by decide)] at H; exact H
                                       clear H
                                       have H := H1
                                       clear H1
                                       obtain rfl := Option.some.inj H
                                       go_wp2_with (first | ((with_reducible refine gate_callee (f := 31) rfl ?_); refine goesL_ (some 168) rfl rfl Tryd.func31 (by kernel_rfl) rfl #[.int .i32 a0, .int .i32 7680, .int .i32 8124] rfl (by (try simp only [List.map_toArray, List.map_cons, List.map_nil]); first | done | rfl) ?_; (with_reducible refine (tremaref02_in.calls a0 7680 8124 false _ A148.out).mono ?_); rintro e w' ⟨rfl, ⟨nd, rfl⟩⟩; refine ⟨_, rfl, ?_⟩) | ((with_reducible refine gate_callee (f := 31) rfl ?_); refine goesL_ (some 170) rfl rfl Tryd.func31 (by kernel_rfl) rfl #[.int .i32 a0, .int .i32 8486, .int .i32 8486] rfl (by (try simp only [List.map_toArray, List.map_cons, List.map_nil]); first | done | rfl) ?_; (with_reducible refine (tremaref02_in.calls a0 8486 8486 false _ A150.out).mono ?_); rintro e w' ⟨rfl, ⟨nd, rfl⟩⟩; refine ⟨_, rfl, ?_⟩) | ((with_reducible refine gate_callee (f := 31) rfl ?_); refine goesL_ (some 172) rfl rfl Tryd.func31 (by kernel_rfl) rfl #[.int .i32 a0, .int .i32 8490, .int .i32 8491] rfl (by (try simp only [List.map_toArray, List.map_cons, List.map_nil]); first | done | rfl) ?_; (with_reducible refine (tremaref02_in.calls a0 8490 8491 false _ A152.out).mono ?_); rintro e w' ⟨rfl, ⟨nd, rfl⟩⟩; refine ⟨_, rfl, ?_⟩) | (go_at_call 31; (with_reducible refine (tremaref02_in.calls a0 12353 12438 false _ A154.out).mono ?_); rintro e w' ⟨rfl, ⟨nd, rfl⟩⟩) | ((with_reducible refine gate_callee (f := 31) rfl ?_); refine goesL_ (some 178) rfl rfl Tryd.func31 (by kernel_rfl) rfl #[.int .i32 a0, .int .i32 12449, .int .i32 12538] rfl (by (try simp only [List.map_toArray, List.map_cons, List.map_nil]); first | done | rfl) ?_; (with_reducible refine (tremaref02_in.calls a0 12449 12538 false _ A156.out).mono ?_); rintro e w' ⟨rfl, ⟨nd, rfl⟩⟩; refine ⟨_, rfl, ?_⟩) | ((with_reducible refine gate_callee (f := 31) rfl ?_); refine goesL_ (some 180) rfl rfl Tryd.func31 (by kernel_rfl) rfl #[.int .i32 a0, .int .i32 19968, .int .i32 40959] rfl (by (try simp only [List.map_toArray, List.map_cons, List.map_nil]); first | done | rfl) ?_; (with_reducible refine (tremaref02_in.calls a0 19968 40959 false _ A158.out).mono ?_); rintro e w' ⟨rfl, ⟨nd, rfl⟩⟩; refine ⟨_, rfl, ?_⟩) | ((with_reducible refine gate_callee (f := 31) rfl ?_); refine goesL_ (some 182) rfl rfl Tryd.func31 (by kernel_rfl) rfl #[.int .i32 a0, .int .i32 44032, .int .i32 55203] rfl (by (try simp only [List.map_toArray, List.map_cons, List.map_nil]); first | done | rfl) ?_; (with_reducible refine (tremaref02_in.calls a0 44032 55203 false _ A160.out).mono ?_); rintro e w' ⟨rfl, ⟨nd, rfl⟩⟩; refine ⟨_, rfl, ?_⟩))
                                       go_ret
                                       exact ⟨by first | rfl | (simp; done) | (simp [*]; done), by repeat (first | exact Drawn0.refl _ | apply Drawn0.step)⟩

end Go.Proofs.YtfiihlgigeijcaaDoor.X
