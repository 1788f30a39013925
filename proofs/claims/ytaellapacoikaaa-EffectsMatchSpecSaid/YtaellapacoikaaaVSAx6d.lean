import Derived.Test.YtaellapacoikaaaV0
import Derived.Test.YtaellapacoikaaaVSAx0
import Derived.Test.YtaellapacoikaaaVSAx5
namespace Go.Proofs.Ytaellapacoikaaa.PA
open Go.RowKit Go.Proofs.YtaellapacoikaaaW.PrintWords Go.Proofs.YtaellapacoikaaaW.PrintLast Go.Proofs.YtaellapacoikaaaW.PrintMore
attribute [local go_sem] max2_int min2_int max_two min_two max_three min_three max_four min_four   -- for this text's walks alone
set_option linter.unusedVariables false
set_option linter.unusedSimpArgs false

/-! ### effects_Find: function 35 -/
set_option maxRecDepth 100000 in
mutual
def effects_Find.j0 : Nat → Int → Int → Bool → Int → List Int → Option (Int × Int × Int × Int × Int × Int × Bool × Bool)
  | 0, _, _, _, _, _ => none
  | k + 1, x4, x7, x18, x121000, x121001 => if x18 = true then ((effects_Find_1.f 0 x121000 x121001).bind fun t124 => (some (0, t124, 0, 0, 0, 0, false, false))) else (if x7 = 10 then ((effects_arithmetic.f x121000 x121001 true false).bind fun bt125 => (some (bt125.1, bt125.2.1, bt125.2.2.1, bt125.2.2.2.1, bt125.2.2.2.2.1, bt125.2.2.2.2.2.1, bt125.2.2.2.2.2.2.1, bt125.2.2.2.2.2.2.2))) else (if x7 = 20 then ((effects_arithmetic.f x121000 x121001 false false).bind fun bt133 => (some (bt133.1, bt133.2.1, bt133.2.2.1, bt133.2.2.2.1, bt133.2.2.2.2.1, bt133.2.2.2.2.2.1, bt133.2.2.2.2.2.2.1, bt133.2.2.2.2.2.2.2))) else (if x7 = 19 then ((effects_arithmetic.f x121000 x121001 false true).bind fun bt141 => (some (bt141.1, bt141.2.1, bt141.2.2.1, bt141.2.2.2.1, bt141.2.2.2.2.1, bt141.2.2.2.2.2.1, bt141.2.2.2.2.2.2.1, bt141.2.2.2.2.2.2.2))) else (if x7 = 9 then (effects_Find.j1 k x4 x7 (x7 == 9) x121000 x121001) else (if x7 = 11 then (effects_Find.j1 k x4 x7 (x7 == 11) x121000 x121001) else (if x7 = 12 then (effects_Find.j1 k x4 x7 (x7 == 12) x121000 x121001) else (if x7 = 13 then (effects_Find.j1 k x4 x7 (x7 == 13) x121000 x121001) else (if x7 = 14 then (effects_Find.j1 k x4 x7 (x7 == 14) x121000 x121001) else (if x7 = 15 then (effects_Find.j1 k x4 x7 (x7 == 15) x121000 x121001) else (if x7 = 16 then (effects_Find.j1 k x4 x7 (x7 == 16) x121000 x121001) else (if x7 = 17 then (effects_Find.j1 k x4 x7 (x7 == 17) x121000 x121001) else (effects_Find.j1 k x4 x7 (x7 == 18) x121000 x121001))))))))))))
def effects_Find.j1 : Nat → Int → Int → Bool → Int → List Int → Option (Int × Int × Int × Int × Int × Int × Bool × Bool)
  | 0, _, _, _, _, _ => none
  | k + 1, x4, x7, x40, x121000, x121001 => if x40 = true then ((effects_arithmetic.f x121000 x121001 true true).bind fun bt149 => (some (bt149.1, bt149.2.1, bt149.2.2.1, bt149.2.2.2.1, bt149.2.2.2.2.1, bt149.2.2.2.2.2.1, bt149.2.2.2.2.2.2.1, bt149.2.2.2.2.2.2.2))) else (if x7 = 21 then (effects_Find.j2 k x4 x7 (x7 == 21) x121000 x121001) else (effects_Find.j2 k x4 x7 (x7 == 23) x121000 x121001))
def effects_Find.j2 : Nat → Int → Int → Bool → Int → List Int → Option (Int × Int × Int × Int × Int × Int × Bool × Bool)
  | 0, _, _, _, _, _ => none
  | k + 1, x4, x7, x52, x121000, x121001 => if x52 = true then ((effects_Find_1.f 1 x121000 x121001).bind fun t157 => ((effects_Find_1.f 0 x121000 x121001).bind fun t158 => (some (t157, t158, 0, 0, 0, 0, true, false)))) else (if x7 = 22 then (effects_Find.j3 k x4 x7 (x7 == 22) x121000 x121001) else (effects_Find.j3 k x4 x7 (x7 == 24) x121000 x121001))
def effects_Find.j3 : Nat → Int → Int → Bool → Int → List Int → Option (Int × Int × Int × Int × Int × Int × Bool × Bool)
  | 0, _, _, _, _, _ => none
  | k + 1, x4, x7, x60, x121000, x121001 => if x60 = true then ((effects_Find_1.f 0 x121000 x121001).bind fun t159 => ((effects_Find_1.f 1 x121000 x121001).bind fun t160 => (some (Go.bits .or .i64 t159 t160, 0, 0, 0, 0, 0, false, true)))) else (if x7 = 25 then ((effects_Find_1.f 0 x121000 x121001).bind fun t161 => (some (Go.bits .or .i64 t161 x4, x4, 0, 0, 0, 0, false, true))) else (if x7 = 26 then ((effects_Find_1.f 0 x121000 x121001).bind fun t162 => (some (x4, Go.bits .or .i64 t162 x4, 0, 0, 0, 0, true, false))) else (if x7 = 37 then (effects_Find.j4 k x4 x7 (x7 == 37) x121000 x121001) else (if x7 = 54 then (effects_Find.j4 k x4 x7 (x7 == 54) x121000 x121001) else (effects_Find.j4 k x4 x7 (x7 == 57) x121000 x121001)))))
def effects_Find.j4 : Nat → Int → Int → Bool → Int → List Int → Option (Int × Int × Int × Int × Int × Int × Bool × Bool)
  | 0, _, _, _, _, _ => none
  | k + 1, x4, x7, x85, x121000, x121001 => if x85 = true then ((effects_Find_1.f 0 x121000 x121001).bind fun t163 => (some (t163, 0, 0, 0, 0, 0, false, false))) else (if x7 = 38 then (some (0, 0, 0, 0, 0, 0, true, false)) else (if x7 = 40 then (some (x4, x4, 0, 0, 0, 0, false, true)) else (if x7 = 41 then ((effects_Find_1.f 0 x121000 x121001).bind fun t164 => (some (Go.bits .or .i64 t164 x4, x4, 0, 0, 0, 0, false, true))) else (if x7 = 42 then (some (x4, x4, 0, 0, 0, 0, true, false)) else (if x7 = 44 then ((effects_Find_1.f 1 x121000 x121001).bind fun t165 => ((effects_Find_1.f 0 x121000 x121001).bind fun t166 => (some (t165, 0, 0, t166, 0, 0, true, false)))) else (if x7 = 45 then ((effects_Find_1.f 1 x121000 x121001).bind fun t167 => ((effects_Find_1.f 0 x121000 x121001).bind fun t168 => (some (t167, 0, t168, 0, 0, 0, false, true)))) else (if x7 = 46 then (effects_Find.j5 k x7 (x7 == 46) x121000 x121001) else (effects_Find.j5 k x7 (x7 == 47) x121000 x121001))))))))
def effects_Find.j5 : Nat → Int → Bool → Int → List Int → Option (Int × Int × Int × Int × Int × Int × Bool × Bool)
  | 0, _, _, _, _ => none
  | k + 1, x7, x127, x121000, x121001 => if x127 = true then ((effects_Find_1.f 0 x121000 x121001).bind fun t169 => ((effects_Find_1.f 1 x121000 x121001).bind fun t170 => ((effects_Find_1.f 0 x121000 x121001).bind fun t171 => (some (0, 0, Go.bits .or .i64 t169 t170, t171, 0, 0, false, false))))) else (if x7 = 48 then ((effects_Find_1.f 1 x121000 x121001).bind fun t172 => ((effects_Find_1.f 0 x121000 x121001).bind fun t173 => (some (0, t173, t172, 0, 0, 0, false, false)))) else (if x7 = 49 then ((effects_Find_1.f 1 x121000 x121001).bind fun t174 => ((effects_Find_1.f 0 x121000 x121001).bind fun t175 => (some (t174, 0, 0, t175, 0, 0, false, false)))) else (if x7 = 50 then (effects_Find.j6 k x7 (x7 == 50) x121000 x121001) else (effects_Find.j6 k x7 (x7 == 51) x121000 x121001))))
def effects_Find.j6 : Nat → Int → Bool → Int → List Int → Option (Int × Int × Int × Int × Int × Int × Bool × Bool)
  | 0, _, _, _, _ => none
  | k + 1, x7, x152, x121000, x121001 => if x152 = true then ((effects_Find_1.f 0 x121000 x121001).bind fun t176 => ((effects_Find_1.f 1 x121000 x121001).bind fun t177 => ((effects_Find_1.f 0 x121000 x121001).bind fun t178 => (some (Go.bits .or .i64 t176 t177, t178, 0, 0, 0, 0, true, true))))) else (if x7 = 52 then ((effects_Find_1.f 0 x121000 x121001).bind fun t179 => ((effects_Find_1.f 1 x121000 x121001).bind fun t180 => ((effects_Find_1.f 2 x121000 x121001).bind fun t181 => ((effects_Find_1.f 0 x121000 x121001).bind fun t182 => (some (Go.bits .or .i64 (Go.bits .or .i64 t179 t180) t181, t182, 0, 0, 0, 0, true, true)))))) else (if x7 = 58 then (some (0, 0, 0, 0, 0, 0, true, true)) else ((effects_flags.f k x121000).bind fun t183 => (some (0, 0, 0, 0, t183, 0, false, false)))))
end
set_option maxRecDepth 100000 in
def effects_Find.f (k : Nat) (a0_0 : Int) (l0_1 : List Int) : Option (Int × Int × Int × Int × Int × Int × Bool × Bool) := if a0_0 = 3 then (some (3, 1, 0, 0, 0, 0, false, false)) else (if a0_0 = 6 then ((effects_Find_1.f 1 a0_0 l0_1).bind fun t122 => ((effects_Find_1.f 0 a0_0 l0_1).bind fun t123 => (some (t122, t123, 0, 0, 0, 0, false, false)))) else (if a0_0 = 7 then (effects_Find.j0 k 128 a0_0 (a0_0 == 7) a0_0 l0_1) else (if a0_0 = 8 then (effects_Find.j0 k 128 a0_0 (a0_0 == 8) a0_0 l0_1) else (if a0_0 = 43 then (effects_Find.j0 k 128 a0_0 (a0_0 == 43) a0_0 l0_1) else (if a0_0 = 53 then (effects_Find.j0 k 128 a0_0 (a0_0 == 53) a0_0 l0_1) else (if a0_0 = 55 then (effects_Find.j0 k 128 a0_0 (a0_0 == 55) a0_0 l0_1) else (effects_Find.j0 k 128 a0_0 (a0_0 == 56) a0_0 l0_1)))))))
set_option maxRecDepth 100000 in
theorem effects_Find.mono_l : ∀ k, (∀ y0 y1 y2 y3 y4, LeO (effects_Find.j0 k y0 y1 y2 y3 y4) (effects_Find.j0 (k + 1) y0 y1 y2 y3 y4)) ∧ (∀ y0 y1 y2 y3 y4, LeO (effects_Find.j1 k y0 y1 y2 y3 y4) (effects_Find.j1 (k + 1) y0 y1 y2 y3 y4)) ∧ (∀ y0 y1 y2 y3 y4, LeO (effects_Find.j2 k y0 y1 y2 y3 y4) (effects_Find.j2 (k + 1) y0 y1 y2 y3 y4)) ∧ (∀ y0 y1 y2 y3 y4, LeO (effects_Find.j3 k y0 y1 y2 y3 y4) (effects_Find.j3 (k + 1) y0 y1 y2 y3 y4)) ∧ (∀ y0 y1 y2 y3 y4, LeO (effects_Find.j4 k y0 y1 y2 y3 y4) (effects_Find.j4 (k + 1) y0 y1 y2 y3 y4)) ∧ (∀ y0 y1 y2 y3, LeO (effects_Find.j5 k y0 y1 y2 y3) (effects_Find.j5 (k + 1) y0 y1 y2 y3)) ∧ (∀ y0 y1 y2 y3, LeO (effects_Find.j6 k y0 y1 y2 y3) (effects_Find.j6 (k + 1) y0 y1 y2 y3))
  | 0 => ⟨fun _ _ _ _ _ r h => by simp [effects_Find.j0] at h, fun _ _ _ _ _ r h => by simp [effects_Find.j1] at h, fun _ _ _ _ _ r h => by simp [effects_Find.j2] at h, fun _ _ _ _ _ r h => by simp [effects_Find.j3] at h, fun _ _ _ _ _ r h => by simp [effects_Find.j4] at h, fun _ _ _ _ r h => by simp [effects_Find.j5] at h, fun _ _ _ _ r h => by simp [effects_Find.j6] at h⟩
  | k + 1 => by
    obtain ⟨ih0, ih1, ih2, ih3, ih4, ih5, ih6⟩ := effects_Find.mono_l k
    refine ⟨?_, ?_, ?_, ?_, ?_, ?_, ?_⟩
    · intro y0 y1 y2 y3 y4
      unfold effects_Find.j0
      repeat' first
      | (with_reducible exact ih0 _ _ _ _ _)
      | (with_reducible exact ih1 _ _ _ _ _)
      | (with_reducible exact ih2 _ _ _ _ _)
      | (with_reducible exact ih3 _ _ _ _ _)
      | (with_reducible exact ih4 _ _ _ _ _)
      | (with_reducible exact ih5 _ _ _ _)
      | (with_reducible exact ih6 _ _ _ _)
      | (with_reducible exact effects_flags.mono _ _)
      | (with_reducible exact LeO.refl _)
      | (with_reducible exact LeO.none _)
      | (with_reducible refine LeO.ite ?_ ?_)
      | (with_reducible refine LeO.bind ?_ (fun _ => ?_))
      | exact ih0 _ _ _ _ _
      | exact ih1 _ _ _ _ _
      | exact ih2 _ _ _ _ _
      | exact ih3 _ _ _ _ _
      | exact ih4 _ _ _ _ _
      | exact ih5 _ _ _ _
      | exact ih6 _ _ _ _
      | exact effects_flags.mono _ _
      | exact LeO.none _
      | refine LeO.ite ?_ ?_
      | refine LeO.bind ?_ (fun _ => ?_)
    · intro y0 y1 y2 y3 y4
      unfold effects_Find.j1
      repeat' first
      | (with_reducible exact ih0 _ _ _ _ _)
      | (with_reducible exact ih1 _ _ _ _ _)
      | (with_reducible exact ih2 _ _ _ _ _)
      | (with_reducible exact ih3 _ _ _ _ _)
      | (with_reducible exact ih4 _ _ _ _ _)
      | (with_reducible exact ih5 _ _ _ _)
      | (with_reducible exact ih6 _ _ _ _)
      | (with_reducible exact effects_flags.mono _ _)
      | (with_reducible exact LeO.refl _)
      | (with_reducible exact LeO.none _)
      | (with_reducible refine LeO.ite ?_ ?_)
      | (with_reducible refine LeO.bind ?_ (fun _ => ?_))
      | exact ih0 _ _ _ _ _
      | exact ih1 _ _ _ _ _
      | exact ih2 _ _ _ _ _
      | exact ih3 _ _ _ _ _
      | exact ih4 _ _ _ _ _
      | exact ih5 _ _ _ _
      | exact ih6 _ _ _ _
      | exact effects_flags.mono _ _
      | exact LeO.none _
      | refine LeO.ite ?_ ?_
      | refine LeO.bind ?_ (fun _ => ?_)
    · intro y0 y1 y2 y3 y4
      unfold effects_Find.j2
      repeat' first
      | (with_reducible exact ih0 _ _ _ _ _)
      | (with_reducible exact ih1 _ _ _ _ _)
      | (with_reducible exact ih2 _ _ _ _ _)
      | (with_reducible exact ih3 _ _ _ _ _)
      | (with_reducible exact ih4 _ _ _ _ _)
      | (with_reducible exact ih5 _ _ _ _)
      | (with_reducible exact ih6 _ _ _ _)
      | (with_reducible exact effects_flags.mono _ _)
      | (with_reducible exact LeO.refl _)
      | (with_reducible exact LeO.none _)
      | (with_reducible refine LeO.ite ?_ ?_)
      | (with_reducible refine LeO.bind ?_ (fun _ => ?_))
      | exact ih0 _ _ _ _ _
      | exact ih1 _ _ _ _ _
      | exact ih2 _ _ _ _ _
      | exact ih3 _ _ _ _ _
      | exact ih4 _ _ _ _ _
      | exact ih5 _ _ _ _
      | exact ih6 _ _ _ _
      | exact effects_flags.mono _ _
      | exact LeO.none _
      | refine LeO.ite ?_ ?_
      | refine LeO.bind ?_ (fun _ => ?_)
    · intro y0 y1 y2 y3 y4
      unfold effects_Find.j3
      repeat' first
      | (with_reducible exact ih0 _ _ _ _ _)
      | (with_reducible exact ih1 _ _ _ _ _)
      | (with_reducible exact ih2 _ _ _ _ _)
      | (with_reducible exact ih3 _ _ _ _ _)
      | (with_reducible exact ih4 _ _ _ _ _)
      | (with_reducible exact ih5 _ _ _ _)
      | (with_reducible exact ih6 _ _ _ _)
      | (with_reducible exact effects_flags.mono _ _)
      | (with_reducible exact LeO.refl _)
      | (with_reducible exact LeO.none _)
      | (with_reducible refine LeO.ite ?_ ?_)
      | (with_reducible refine LeO.bind ?_ (fun _ => ?_))
      | exact ih0 _ _ _ _ _
      | exact ih1 _ _ _ _ _
      | exact ih2 _ _ _ _ _
      | exact ih3 _ _ _ _ _
      | exact ih4 _ _ _ _ _
      | exact ih5 _ _ _ _
      | exact ih6 _ _ _ _
      | exact effects_flags.mono _ _
      | exact LeO.none _
      | refine LeO.ite ?_ ?_
      | refine LeO.bind ?_ (fun _ => ?_)
    · intro y0 y1 y2 y3 y4
      unfold effects_Find.j4
      repeat' first
      | (with_reducible exact ih0 _ _ _ _ _)
      | (with_reducible exact ih1 _ _ _ _ _)
      | (with_reducible exact ih2 _ _ _ _ _)
      | (with_reducible exact ih3 _ _ _ _ _)
      | (with_reducible exact ih4 _ _ _ _ _)
      | (with_reducible exact ih5 _ _ _ _)
      | (with_reducible exact ih6 _ _ _ _)
      | (with_reducible exact effects_flags.mono _ _)
      | (with_reducible exact LeO.refl _)
      | (with_reducible exact LeO.none _)
      | (with_reducible refine LeO.ite ?_ ?_)
      | (with_reducible refine LeO.bind ?_ (fun _ => ?_))
      | exact ih0 _ _ _ _ _
      | exact ih1 _ _ _ _ _
      | exact ih2 _ _ _ _ _
      | exact ih3 _ _ _ _ _
      | exact ih4 _ _ _ _ _
      | exact ih5 _ _ _ _
      | exact ih6 _ _ _ _
      | exact effects_flags.mono _ _
      | exact LeO.none _
      | refine LeO.ite ?_ ?_
      | refine LeO.bind ?_ (fun _ => ?_)
    · intro y0 y1 y2 y3
      unfold effects_Find.j5
      repeat' first
      | (with_reducible exact ih0 _ _ _ _ _)
      | (with_reducible exact ih1 _ _ _ _ _)
      | (with_reducible exact ih2 _ _ _ _ _)
      | (with_reducible exact ih3 _ _ _ _ _)
      | (with_reducible exact ih4 _ _ _ _ _)
      | (with_reducible exact ih5 _ _ _ _)
      | (with_reducible exact ih6 _ _ _ _)
      | (with_reducible exact effects_flags.mono _ _)
      | (with_reducible exact LeO.refl _)
      | (with_reducible exact LeO.none _)
      | (with_reducible refine LeO.ite ?_ ?_)
      | (with_reducible refine LeO.bind ?_ (fun _ => ?_))
      | exact ih0 _ _ _ _ _
      | exact ih1 _ _ _ _ _
      | exact ih2 _ _ _ _ _
      | exact ih3 _ _ _ _ _
      | exact ih4 _ _ _ _ _
      | exact ih5 _ _ _ _
      | exact ih6 _ _ _ _
      | exact effects_flags.mono _ _
      | exact LeO.none _
      | refine LeO.ite ?_ ?_
      | refine LeO.bind ?_ (fun _ => ?_)
    · intro y0 y1 y2 y3
      unfold effects_Find.j6
      repeat' first
      | (with_reducible exact ih0 _ _ _ _ _)
      | (with_reducible exact ih1 _ _ _ _ _)
      | (with_reducible exact ih2 _ _ _ _ _)
      | (with_reducible exact ih3 _ _ _ _ _)
      | (with_reducible exact ih4 _ _ _ _ _)
      | (with_reducible exact ih5 _ _ _ _)
      | (with_reducible exact ih6 _ _ _ _)
      | (with_reducible exact effects_flags.mono _ _)
      | (with_reducible exact LeO.refl _)
      | (with_reducible exact LeO.none _)
      | (with_reducible refine LeO.ite ?_ ?_)
      | (with_reducible refine LeO.bind ?_ (fun _ => ?_))
      | exact ih0 _ _ _ _ _
      | exact ih1 _ _ _ _ _
      | exact ih2 _ _ _ _ _
      | exact ih3 _ _ _ _ _
      | exact ih4 _ _ _ _ _
      | exact ih5 _ _ _ _
      | exact ih6 _ _ _ _
      | exact effects_flags.mono _ _
      | exact LeO.none _
      | refine LeO.ite ?_ ?_
      | refine LeO.bind ?_ (fun _ => ?_)
set_option maxRecDepth 100000 in
theorem effects_Find.mono : ∀ a0 a1 k, LeO (effects_Find.f k a0 a1) (effects_Find.f (k + 1) a0 a1) := by
  intro a0 a1 k
  obtain ⟨ih0, ih1, ih2, ih3, ih4, ih5, ih6⟩ := effects_Find.mono_l k
  unfold effects_Find.f
  repeat' first
      | (with_reducible exact ih0 _ _ _ _ _)
      | (with_reducible exact ih1 _ _ _ _ _)
      | (with_reducible exact ih2 _ _ _ _ _)
      | (with_reducible exact ih3 _ _ _ _ _)
      | (with_reducible exact ih4 _ _ _ _ _)
      | (with_reducible exact ih5 _ _ _ _)
      | (with_reducible exact ih6 _ _ _ _)
      | (with_reducible exact effects_flags.mono _ _)
      | (with_reducible exact LeO.refl _)
      | (with_reducible exact LeO.none _)
      | (with_reducible refine LeO.ite ?_ ?_)
      | (with_reducible refine LeO.bind ?_ (fun _ => ?_))
      | exact ih0 _ _ _ _ _
      | exact ih1 _ _ _ _ _
      | exact ih2 _ _ _ _ _
      | exact ih3 _ _ _ _ _
      | exact ih4 _ _ _ _ _
      | exact ih5 _ _ _ _
      | exact ih6 _ _ _ _
      | exact effects_flags.mono _ _
      | exact LeO.none _
      | refine LeO.ite ?_ ?_
      | refine LeO.bind ?_ (fun _ => ?_)
def FindC (F : Int) : Prop := ∀ (k : Nat) (A : Option Addr) (c : Nat) (l : List Int) (r1 r2 r3 r4 r5 r6 : Int) (r7 r8 : Bool) (w : World), Kd.C (Kd.int .i64) w A l.length l → l.length ≤ c → effects_Find.f k F l = some (r1, r2, r3, r4, r5, r6, r7, r8) →
    Calls Try.prog 35 #[.agg #[.int .i64 F, .slice A l.length c]] w fun e w' => e = .returned (.agg #[.int .i64 r1, .int .i64 r2, .int .i64 r3, .int .i64 r4, .int .i64 r5, .int .i64 r6, .bool r7, .bool r8]) ∧ Below w.heap.size w w'
theorem find_up {k : Nat} {F : Int} {l : List Int} {r} (h : effects_Find.f k F l = some r) : effects_Find.f (k + 8) F l = some r :=
  effects_Find.mono _ _ _ _ (effects_Find.mono _ _ _ _ (effects_Find.mono _ _ _ _ (effects_Find.mono _ _ _ _ (effects_Find.mono _ _ _ _ (effects_Find.mono _ _ _ _ (effects_Find.mono _ _ _ _ (effects_Find.mono _ _ _ _ h)))))))
end Go.Proofs.Ytaellapacoikaaa.PA
