import Derived.Test.YtaellapacoikaaaV0
import Derived.Test.YtaellapacoikaaaVSAx0
import Derived.Test.YtaellapacoikaaaVSAx2
import Derived.Test.YtaellapacoikaaaVSAx7
import Derived.Test.YtaellapacoikaaaVSAx9
namespace Go.Proofs.Ytaellapacoikaaa.PA
open Go.RowKit Go.Proofs.YtaellapacoikaaaW.PrintWords Go.Proofs.YtaellapacoikaaaW.PrintLast Go.Proofs.YtaellapacoikaaaW.PrintMore
attribute [local go_sem] max2_int min2_int max_two min_two max_three min_three max_four min_four   -- for this text's walks alone
set_option linter.unusedVariables false
set_option linter.unusedSimpArgs false

attribute [local go_sem high] eqA28
/-! ### effects_Dead: function 15 -/
set_option maxRecDepth 100000 in
def effects_Dead.j0 : Nat → Bool → Int → List Int → Int → Int → Int → Int → Int → Int → Int → Int → Int → Int → Bool → Bool → Int → Int → Option (Bool × Int × Int)
  | 0, _, _, _, _, _, _, _, _, _, _, _, _, _, _, _, _, _ => none
  | k + 1, x45, x232000, x232001, x233000, x233001, x233002, x233003, x245000, x245001, x245002, x245003, x245004, x245005, x245006, x245007, x246000, x246001 => if x45 = true then (some (false, 3, (-4))) else (if (!(x246000 == 0) || (!(x246001 == 0))) = true then (some (false, x246000, x246001)) else ((effects_simple.f k x232000 x232001).bind fun t246 => (if t246 = true then (if (Go.bits .and .i64 x245001 x233001) = 0 then (if (Go.bits .and .i64 x245003 x233002) = 0 then (some (((Go.bits .and .i64 x245005 x233003) == 0), x246000, x246001)) else (some (false, x246000, x246001))) else (some (false, x246000, x246001))) else (some (false, x246000, x246001)))))
set_option maxRecDepth 100000 in
def effects_Dead.f (k : Nat) (a0_0 : Int) (l0_1 : List Int) (a1_0 : Int) (a1_1 : Int) (a1_2 : Int) (a1_3 : Int) : Option (Bool × Int × Int) := (effects_Of.f k a0_0 l0_1).bind fun bt234 => (if (bt234.2.2.2.2.2.2.2.2.1 == 0 && (bt234.2.2.2.2.2.2.2.2.2 == 0)) = true then (if a1_1 < 0 then (effects_Dead.j0 k true a0_0 l0_1 a1_0 a1_1 a1_2 a1_3 bt234.1 bt234.2.1 bt234.2.2.1 bt234.2.2.2.1 bt234.2.2.2.2.1 bt234.2.2.2.2.2.1 bt234.2.2.2.2.2.2.1 bt234.2.2.2.2.2.2.2.1 bt234.2.2.2.2.2.2.2.2.1 bt234.2.2.2.2.2.2.2.2.2) else (if a1_1 > 255 then (effects_Dead.j0 k true a0_0 l0_1 a1_0 a1_1 a1_2 a1_3 bt234.1 bt234.2.1 bt234.2.2.1 bt234.2.2.2.1 bt234.2.2.2.2.1 bt234.2.2.2.2.2.1 bt234.2.2.2.2.2.2.1 bt234.2.2.2.2.2.2.2.1 bt234.2.2.2.2.2.2.2.2.1 bt234.2.2.2.2.2.2.2.2.2) else (if a1_2 < 0 then (effects_Dead.j0 k true a0_0 l0_1 a1_0 a1_1 a1_2 a1_3 bt234.1 bt234.2.1 bt234.2.2.1 bt234.2.2.2.1 bt234.2.2.2.2.1 bt234.2.2.2.2.2.1 bt234.2.2.2.2.2.2.1 bt234.2.2.2.2.2.2.2.1 bt234.2.2.2.2.2.2.2.2.1 bt234.2.2.2.2.2.2.2.2.2) else (if a1_2 > 15 then (effects_Dead.j0 k true a0_0 l0_1 a1_0 a1_1 a1_2 a1_3 bt234.1 bt234.2.1 bt234.2.2.1 bt234.2.2.2.1 bt234.2.2.2.2.1 bt234.2.2.2.2.2.1 bt234.2.2.2.2.2.2.1 bt234.2.2.2.2.2.2.2.1 bt234.2.2.2.2.2.2.2.2.1 bt234.2.2.2.2.2.2.2.2.2) else (if a1_3 < 0 then (effects_Dead.j0 k true a0_0 l0_1 a1_0 a1_1 a1_2 a1_3 bt234.1 bt234.2.1 bt234.2.2.1 bt234.2.2.2.1 bt234.2.2.2.2.1 bt234.2.2.2.2.2.1 bt234.2.2.2.2.2.2.1 bt234.2.2.2.2.2.2.2.1 bt234.2.2.2.2.2.2.2.2.1 bt234.2.2.2.2.2.2.2.2.2) else (effects_Dead.j0 k (decide (a1_3 > 15)) a0_0 l0_1 a1_0 a1_1 a1_2 a1_3 bt234.1 bt234.2.1 bt234.2.2.1 bt234.2.2.2.1 bt234.2.2.2.2.1 bt234.2.2.2.2.2.1 bt234.2.2.2.2.2.2.1 bt234.2.2.2.2.2.2.2.1 bt234.2.2.2.2.2.2.2.2.1 bt234.2.2.2.2.2.2.2.2.2)))))) else (effects_Dead.j0 k false a0_0 l0_1 a1_0 a1_1 a1_2 a1_3 bt234.1 bt234.2.1 bt234.2.2.1 bt234.2.2.2.1 bt234.2.2.2.2.1 bt234.2.2.2.2.2.1 bt234.2.2.2.2.2.2.1 bt234.2.2.2.2.2.2.2.1 bt234.2.2.2.2.2.2.2.2.1 bt234.2.2.2.2.2.2.2.2.2))
set_option maxRecDepth 100000 in
theorem effects_Dead.mono_l : ∀ k, (∀ y0 y1 y2 y3 y4 y5 y6 y7 y8 y9 y10 y11 y12 y13 y14 y15 y16, LeO (effects_Dead.j0 k y0 y1 y2 y3 y4 y5 y6 y7 y8 y9 y10 y11 y12 y13 y14 y15 y16) (effects_Dead.j0 (k + 1) y0 y1 y2 y3 y4 y5 y6 y7 y8 y9 y10 y11 y12 y13 y14 y15 y16))
  | 0 => fun _ _ _ _ _ _ _ _ _ _ _ _ _ _ _ _ _ r h => by simp [effects_Dead.j0] at h
  | k + 1 => by
    have ih0 := effects_Dead.mono_l k
    · intro y0 y1 y2 y3 y4 y5 y6 y7 y8 y9 y10 y11 y12 y13 y14 y15 y16
      unfold effects_Dead.j0
      repeat' first
      | (with_reducible exact ih0 _ _ _ _ _ _ _ _ _ _ _ _ _ _ _ _ _)
      | (with_reducible exact effects_Of.mono _ _ _)
      | (with_reducible exact effects_simple.mono _ _ _)
      | (with_reducible exact LeO.refl _)
      | (with_reducible exact LeO.none _)
      | (with_reducible refine LeO.ite ?_ ?_)
      | (with_reducible refine LeO.bind ?_ (fun _ => ?_))
      | exact ih0 _ _ _ _ _ _ _ _ _ _ _ _ _ _ _ _ _
      | exact effects_Of.mono _ _ _
      | exact effects_simple.mono _ _ _
      | exact LeO.none _
      | refine LeO.ite ?_ ?_
      | refine LeO.bind ?_ (fun _ => ?_)
set_option maxRecDepth 100000 in
theorem effects_Dead.mono : ∀ a0 a1 a2 a3 a4 a5 k, LeO (effects_Dead.f k a0 a1 a2 a3 a4 a5) (effects_Dead.f (k + 1) a0 a1 a2 a3 a4 a5) := by
  intro a0 a1 a2 a3 a4 a5 k
  have ih0 := effects_Dead.mono_l k
  unfold effects_Dead.f
  repeat' first
      | (with_reducible exact ih0 _ _ _ _ _ _ _ _ _ _ _ _ _ _ _ _ _)
      | (with_reducible exact effects_Of.mono _ _ _)
      | (with_reducible exact effects_simple.mono _ _ _)
      | (with_reducible exact LeO.refl _)
      | (with_reducible exact LeO.none _)
      | (with_reducible refine LeO.ite ?_ ?_)
      | (with_reducible refine LeO.bind ?_ (fun _ => ?_))
      | exact ih0 _ _ _ _ _ _ _ _ _ _ _ _ _ _ _ _ _
      | exact effects_Of.mono _ _ _
      | exact effects_simple.mono _ _ _
      | exact LeO.none _
      | refine LeO.ite ?_ ?_
      | refine LeO.bind ?_ (fun _ => ?_)
def effects_Dead.T6 : Bool × List (List Nat × List Nat) := (true, [([], []), ([0], [0]), ([1, 1], [1]), ([2], [2]), ([3, 2], [2, 3]), ([2], [2]), ([5, 2], [2, 5]), ([4, 6, 2], [2, 4, 6]), ([7, 2], [2, 7]), ([2, 8], [2, 8]), ([9, 2], [9]), ([10], [10]), ([11, 10], [10, 11]), ([10], [10]), ([13, 10], [10, 13]), ([12, 14, 10], [10, 12, 14]), ([15, 10], [10, 15]), ([10, 16], [10, 16]), ([17, 10], [17]), ([18], [18]), ([19, 18], [18, 19]), ([18], [18]), ([21, 18], [18, 21]), ([20, 22, 18], [18, 20, 22]), ([23, 18], [18, 23]), ([18, 24], [18, 24]), ([], []), ([25, 18, 0, 1, 2, 3, 4, 5, 6, 7, 8, 9, 10, 11, 12, 13, 14, 15, 16, 17, 18, 19, 20, 21, 22, 23, 24, 25], [25]), ([26, 27, 0, 1, 2, 3, 4, 5, 6, 7, 8, 9, 10, 11, 12, 13, 14, 15, 16, 17, 18, 19, 20, 21, 22, 23, 24, 25, 26, 27], [26])])
def effects_Dead.B6 : List Nat := [0, 1, 3, 7, 15, 7, 39, 127, 255, 511, 1023, 2047, 4095, 2047, 10239, 32767, 65535, 131071, 262143, 524287, 1048575, 524287, 2621439, 8388607, 16777215, 33554431, 0, 67108863, 268435455]
theorem effects_Dead.tab6 : rtab .any (opsOf Try.f15 6) = effects_Dead.T6 := by kernel_rfl
theorem effects_Dead.bits6 : waitsOk effects_Dead.T6.2 effects_Dead.B6 = true := by kernel_rfl
set_option maxHeartbeats 8000000 in
set_option maxRecDepth 100000 in
theorem effects_Dead.calls (k : Nat) (a0_0 : Int) (A0_1 : Option Addr) (c0_1 : Nat) (l0_1 : List Int) (a1_0 : Int) (a1_1 : Int) (a1_2 : Int) (a1_3 : Int) (r1 : Bool) (r2 : Int) (r3 : Int) (w : World) (hr0_1 : Kd.C (Kd.int .i64) w A0_1 l0_1.length l0_1) (hc0_1 : l0_1.length ≤ c0_1) (h : effects_Dead.f k a0_0 l0_1 a1_0 a1_1 a1_2 a1_3 = some (r1, r2, r3)) :
    Calls Try.prog 15 #[.agg #[.int .i64 a0_0, .slice A0_1 l0_1.length c0_1], .agg #[.int .i64 a1_0, .int .i64 a1_1, .int .i64 a1_2, .int .i64 a1_3]] w fun e w' => e = .returned (.tuple #[.bool r1, .agg #[.int .i64 r2, .int .i64 r3]]) ∧ Below w.heap.size w w' := by
  have hu24 := Try.underlying24
  have hu36 := Try.underlying36
  have hu28 := Try.underlying28
  have hu26 := Try.underlying26
  have HR0_1 := Aside0.mk hr0_1
  have HC0_1 := Aside0.mk hc0_1
  clear hr0_1 hc0_1
  have HB := Aside0.mk (Below.refl w.heap.size w)
  have H : ((effects_Of.f k a0_0 l0_1).bind fun bt234 => (if (bt234.2.2.2.2.2.2.2.2.1 == 0 && (bt234.2.2.2.2.2.2.2.2.2 == 0)) = true then (if a1_1 < 0 then (effects_Dead.j0 k true a0_0 l0_1 a1_0 a1_1 a1_2 a1_3 bt234.1 bt234.2.1 bt234.2.2.1 bt234.2.2.2.1 bt234.2.2.2.2.1 bt234.2.2.2.2.2.1 bt234.2.2.2.2.2.2.1 bt234.2.2.2.2.2.2.2.1 bt234.2.2.2.2.2.2.2.2.1 bt234.2.2.2.2.2.2.2.2.2) else (if a1_1 > 255 then (effects_Dead.j0 k true a0_0 l0_1 a1_0 a1_1 a1_2 a1_3 bt234.1 bt234.2.1 bt234.2.2.1 bt234.2.2.2.1 bt234.2.2.2.2.1 bt234.2.2.2.2.2.1 bt234.2.2.2.2.2.2.1 bt234.2.2.2.2.2.2.2.1 bt234.2.2.2.2.2.2.2.2.1 bt234.2.2.2.2.2.2.2.2.2) else (if a1_2 < 0 then (effects_Dead.j0 k true a0_0 l0_1 a1_0 a1_1 a1_2 a1_3 bt234.1 bt234.2.1 bt234.2.2.1 bt234.2.2.2.1 bt234.2.2.2.2.1 bt234.2.2.2.2.2.1 bt234.2.2.2.2.2.2.1 bt234.2.2.2.2.2.2.2.1 bt234.2.2.2.2.2.2.2.2.1 bt234.2.2.2.2.2.2.2.2.2) else (if a1_2 > 15 then (effects_Dead.j0 k true a0_0 l0_1 a1_0 a1_1 a1_2 a1_3 bt234.1 bt234.2.1 bt234.2.2.1 bt234.2.2.2.1 bt234.2.2.2.2.1 bt234.2.2.2.2.2.1 bt234.2.2.2.2.2.2.1 bt234.2.2.2.2.2.2.2.1 bt234.2.2.2.2.2.2.2.2.1 bt234.2.2.2.2.2.2.2.2.2) else (if a1_3 < 0 then (effects_Dead.j0 k true a0_0 l0_1 a1_0 a1_1 a1_2 a1_3 bt234.1 bt234.2.1 bt234.2.2.1 bt234.2.2.2.1 bt234.2.2.2.2.1 bt234.2.2.2.2.2.1 bt234.2.2.2.2.2.2.1 bt234.2.2.2.2.2.2.2.1 bt234.2.2.2.2.2.2.2.2.1 bt234.2.2.2.2.2.2.2.2.2) else (effects_Dead.j0 k (decide (a1_3 > 15)) a0_0 l0_1 a1_0 a1_1 a1_2 a1_3 bt234.1 bt234.2.1 bt234.2.2.1 bt234.2.2.2.1 bt234.2.2.2.2.1 bt234.2.2.2.2.2.1 bt234.2.2.2.2.2.2.1 bt234.2.2.2.2.2.2.2.1 bt234.2.2.2.2.2.2.2.2.1 bt234.2.2.2.2.2.2.2.2.2)))))) else (effects_Dead.j0 k false a0_0 l0_1 a1_0 a1_1 a1_2 a1_3 bt234.1 bt234.2.1 bt234.2.2.1 bt234.2.2.2.1 bt234.2.2.2.2.1 bt234.2.2.2.2.2.1 bt234.2.2.2.2.2.2.1 bt234.2.2.2.2.2.2.2.1 bt234.2.2.2.2.2.2.2.2.1 bt234.2.2.2.2.2.2.2.2.2))) = some (r1, r2, r3) := h
  clear h
  replace H := Option.bind_eq_some_iff.mp H
  obtain ⟨⟨t234, t235, t236, t237, t238, t239, t240, t241, t242, t243⟩, A30, H⟩ := H
  replace H : (if (t242 == 0 && (t243 == 0)) = true then (if a1_1 < 0 then (effects_Dead.j0 k true a0_0 l0_1 a1_0 a1_1 a1_2 a1_3 t234 t235 t236 t237 t238 t239 t240 t241 t242 t243) else (if a1_1 > 255 then (effects_Dead.j0 k true a0_0 l0_1 a1_0 a1_1 a1_2 a1_3 t234 t235 t236 t237 t238 t239 t240 t241 t242 t243) else (if a1_2 < 0 then (effects_Dead.j0 k true a0_0 l0_1 a1_0 a1_1 a1_2 a1_3 t234 t235 t236 t237 t238 t239 t240 t241 t242 t243) else (if a1_2 > 15 then (effects_Dead.j0 k true a0_0 l0_1 a1_0 a1_1 a1_2 a1_3 t234 t235 t236 t237 t238 t239 t240 t241 t242 t243) else (if a1_3 < 0 then (effects_Dead.j0 k true a0_0 l0_1 a1_0 a1_1 a1_2 a1_3 t234 t235 t236 t237 t238 t239 t240 t241 t242 t243) else (effects_Dead.j0 k (decide (a1_3 > 15)) a0_0 l0_1 a1_0 a1_1 a1_2 a1_3 t234 t235 t236 t237 t238 t239 t240 t241 t242 t243)))))) else (effects_Dead.j0 k false a0_0 l0_1 a1_0 a1_1 a1_2 a1_3 t234 t235 t236 t237 t238 t239 t240 t241 t242 t243)) = some (r1, r2, r3) := H
  have A3 := Aside0.mk A30
  clear A30
  have HC4 := Aside0.mk H
  clear H
  go_enter Try.func15, Try.ntmps15
  go_upto_region 2 with (first | ((with_reducible refine gate_dst (N := 2) rfl ?_); refine bx_ (N := 2) (cs := #[.int .i64 a0_0, .slice A0_1 l0_1.length c0_1]) (t := 24) ?_; intro gb231 hg w5 hbox hb; have BK231 := Aside0.mk hbox; have GW231 := bs_ HB hg; have GE231 := bs_ HB hg; replace HB := hs_ HB hb; clear hb hbox hg) | ((with_reducible refine gate_dst (N := 3) rfl ?_); refine bx_ (N := 3) (cs := #[.int .i64 a1_0, .int .i64 a1_1, .int .i64 a1_2, .int .i64 a1_3]) (t := 36) ?_; intro gb232 hg w6 hbox hb; have BK232 := Aside0.mk hbox; have GW232 := bs_ HB hg; have GE232 := bs_ HB hg; have NB231_232 := nl_ BK231 hg; have NB232_231 := ng_ BK231 hg; replace BK231 := bb_ BK231 hb; replace HB := hs_ HB hb; clear hb hbox hg) | ((with_reducible refine gate_dst (N := 5) rfl ?_); refine bx_ (N := 5) (cs := #[.int .i64 0, .int .i64 0]) (t := 28) ?_; intro gb233 hg w7 hbox hb; have BK233 := Aside0.mk hbox; have GW233 := bs_ HB hg; have GE233 := bs_ HB hg; have NB231_233 := nl_ BK231 hg; have NB233_231 := ng_ BK231 hg; have NB232_233 := nl_ BK232 hg; have NB233_232 := ng_ BK232 hg; replace BK231 := bb_ BK231 hb; replace BK232 := bb_ BK232 hb; replace HB := hs_ HB hb; clear hb hbox hg; have hnb8 := NB231_232.out; have hnc8 := NB232_231.out; have hnb9 := NB231_233.out; have hnc9 := NB233_231.out; obtain ⟨hcz10_0, hcz10_1, hfz10_0, hfz10_1⟩ := cz2_ BK231) | ((with_reducible refine gate_callee (f := 11) rfl ?_); refine goesL_ (some 10) rfl rfl Try.func11 (by kernel_rfl) rfl #[.agg #[.int .i64 a0_0, .slice A0_1 l0_1.length c0_1]] rfl ar_ ?_; (with_reducible refine (effects_Of.calls k a0_0 _ _ l0_1 t234 t235 t236 t237 t238 t239 t240 t241 t242 t243 _ ?side1 ?side2 A3.out).mono ?_); (case side1 => exact cb_ HR0_1 HB); (case side2 => exact HC0_1.out); rintro e w11 ⟨rfl, hb⟩; refine ⟨_, rfl, ?_⟩; replace BK231 := bb_ BK231 hb; replace BK232 := bb_ BK232 hb; replace BK233 := bb_ BK233 hb; replace HB := hs_ HB hb; (try clear hb); (try clear hb2); (try clear hk); (try clear hi)) | ((with_reducible refine gate_dst (N := 6) rfl ?_); refine bx_ (N := 6) (cs := #[.int .i64 0, .int .i64 0, .int .i64 0, .int .i64 0, .int .i64 0, .int .i64 0, .bool false, .bool false]) (t := 26) ?_; intro gb244 hg w12 hbox hb; have BK244 := Aside0.mk hbox; have GW244 := bs_ HB hg; have GE244 := bs_ HB hg; have NB231_244 := nl_ BK231 hg; have NB244_231 := ng_ BK231 hg; have NB232_244 := nl_ BK232 hg; have NB244_232 := ng_ BK232 hg; have NB233_244 := nl_ BK233 hg; have NB244_233 := ng_ BK233 hg; replace BK231 := bb_ BK231 hb; replace BK232 := bb_ BK232 hb; replace BK233 := bb_ BK233 hb; replace HB := hs_ HB hb; clear hb hbox hg) | ((with_reducible refine gate_dst (N := 7) rfl ?_); refine bx_ (N := 7) (cs := #[.int .i64 0, .int .i64 0]) (t := 28) ?_; intro gb245 hg w13 hbox hb; have BK245 := Aside0.mk hbox; have GW245 := bs_ HB hg; have GE245 := bs_ HB hg; have NB231_245 := nl_ BK231 hg; have NB245_231 := ng_ BK231 hg; have NB232_245 := nl_ BK232 hg; have NB245_232 := ng_ BK232 hg; have NB233_245 := nl_ BK233 hg; have NB245_233 := ng_ BK233 hg; have NB244_245 := nl_ BK244 hg; have NB245_244 := ng_ BK244 hg; replace BK231 := bb_ BK231 hb; replace BK232 := bb_ BK232 hb; replace BK233 := bb_ BK233 hb; replace BK244 := bb_ BK244 hb; replace HB := hs_ HB hb; clear hb hbox hg; have hnb14 := NB244_231.out; have hnc14 := NB231_244.out; have hnb15 := NB244_232.out; have hnc15 := NB232_244.out; have hnb16 := NB244_233.out; have hnc16 := NB233_244.out; have hnb17 := NB244_245.out; have hnc17 := NB245_244.out; obtain ⟨hcz18_0, hcz18_1, hcz18_2, hcz18_3, hcz18_4, hcz18_5, hcz18_6, hcz18_7, hfz18_0, hfz18_1, hfz18_2, hfz18_3, hfz18_4, hfz18_5, hfz18_6, hfz18_7⟩ := cz8_ BK244; have hnb19 := NB245_231.out; have hnc19 := NB231_245.out; have hnb20 := NB245_232.out; have hnc20 := NB232_245.out; have hnb21 := NB245_233.out; have hnc21 := NB233_245.out; obtain ⟨hcz22_0, hcz22_1, hfz22_0, hfz22_1⟩ := cz2_ BK245))
  (try simp only [Act.put, List.setIfInBounds_toArray, List.set_cons_zero, List.set_cons_succ])
  go_cut [45] (fun v45 wc => ∃ (kq : Nat) (x45_3 : Bool), v45 = .bool x45_3 ∧ Aside0 (effects_Dead.j0 kq x45_3 a0_0 l0_1 a1_0 a1_1 a1_2 a1_3 t234 t235 t236 t237 t238 t239 t240 t241 t242 t243 = some (r1, r2, r3)) ∧ Aside0 (kq ≤ k) ∧ Aside0 (wc.heap[gb231]? = some (.cells #[.int .i64 a0_0, (.slice A0_1 l0_1.length c0_1)] 24 (0, 0))) ∧ Aside0 (wc.heap[gb232]? = some (.cells #[.int .i64 a1_0, .int .i64 a1_1, .int .i64 a1_2, .int .i64 a1_3] 36 (0, 0))) ∧ Aside0 (wc.heap[gb233]? = some (.cells #[.int .i64 0, .int .i64 0] 28 (0, 0))) ∧ Aside0 (wc.heap[gb244]? = some (.cells #[.int .i64 t234, .int .i64 t235, .int .i64 t236, .int .i64 t237, .int .i64 t238, .int .i64 t239, .bool t240, .bool t241] 26 (0, 0))) ∧ Aside0 (wc.heap[gb245]? = some (.cells #[.int .i64 t242, .int .i64 t243] 28 (0, 0))) ∧ Aside0 (Below w.heap.size w wc))
  case first =>
    have H := HC4.out
    clear HC4
    by_cases c23 : (t242 == 0 && (t243 == 0)) = true
    · rw [if_pos c23] at H
      have c23b0 : (t242 == 0 && (t243 == 0)) = true := c23
      (try (have c23b1 : decide (t242 = 0 && (t243 == 0)) = true := by simpa using c23))
      (try (have c23b2 : (t242 == 0 && (t243 == 0)) = true := by simpa using c23))
      clear c23
      (first | rw [c23b0] | (simp only [i64_w, i32_w]; rw [c23b0]) | skip)
      by_cases c24 : a1_1 < 0
      · rw [if_pos c24] at H
        have c24b0 : decide (a1_1 < 0) = true := decide_eq_true c24
        clear c24
        have H' := Aside0.mk H
        clear H
        have hnb25 := NB245_231.out
        have hnc25 := NB231_245.out
        have hnb26 := NB245_232.out
        have hnc26 := NB232_245.out
        have hnb27 := NB245_233.out
        have hnc27 := NB233_245.out
        have hnb28 := NB245_244.out
        have hnc28 := NB244_245.out
        obtain ⟨hcz29_0, hcz29_1, hfz29_0, hfz29_1⟩ := cz2_ BK245
        have hnb30 := NB232_231.out
        have hnc30 := NB231_232.out
        have hnb31 := NB232_233.out
        have hnc31 := NB233_232.out
        have hnb32 := NB232_244.out
        have hnc32 := NB244_232.out
        obtain ⟨hcz33_0, hcz33_1, hcz33_2, hcz33_3, hfz33_0, hfz33_1, hfz33_2, hfz33_3⟩ := cz4_ BK232
        go_wp2
        go_meet
        case rel => exact ⟨_, (true), rs_, H', le_, ⟨bk_ BK231⟩, ⟨bk_ BK232⟩, ⟨bk_ BK233⟩, ⟨bk_ BK244⟩, ⟨bk_ BK245⟩, ⟨bw_ HB⟩⟩
      · rw [if_neg c24] at H
        have c24b0 : decide (a1_1 < 0) = false := decide_eq_false c24
        clear c24
        by_cases c34 : a1_1 > 255
        · rw [if_pos c34] at H
          have c34b0 : decide (255 < a1_1) = true := decide_eq_true c34
          clear c34
          have H' := Aside0.mk H
          clear H
          have hnb35 := NB245_231.out
          have hnc35 := NB231_245.out
          have hnb36 := NB245_232.out
          have hnc36 := NB232_245.out
          have hnb37 := NB245_233.out
          have hnc37 := NB233_245.out
          have hnb38 := NB245_244.out
          have hnc38 := NB244_245.out
          obtain ⟨hcz39_0, hcz39_1, hfz39_0, hfz39_1⟩ := cz2_ BK245
          have hnb40 := NB232_231.out
          have hnc40 := NB231_232.out
          have hnb41 := NB232_233.out
          have hnc41 := NB233_232.out
          have hnb42 := NB232_244.out
          have hnc42 := NB244_232.out
          obtain ⟨hcz43_0, hcz43_1, hcz43_2, hcz43_3, hfz43_0, hfz43_1, hfz43_2, hfz43_3⟩ := cz4_ BK232
          go_wp2
          go_meet
          case rel => exact ⟨_, (true), rs_, H', le_, ⟨bk_ BK231⟩, ⟨bk_ BK232⟩, ⟨bk_ BK233⟩, ⟨bk_ BK244⟩, ⟨bk_ BK245⟩, ⟨bw_ HB⟩⟩
        · rw [if_neg c34] at H
          have c34b0 : decide (255 < a1_1) = false := decide_eq_false c34
          clear c34
          by_cases c44 : a1_2 < 0
          · rw [if_pos c44] at H
            have c44b0 : decide (a1_2 < 0) = true := decide_eq_true c44
            clear c44
            have H' := Aside0.mk H
            clear H
            have hnb45 := NB245_231.out
            have hnc45 := NB231_245.out
            have hnb46 := NB245_232.out
            have hnc46 := NB232_245.out
            have hnb47 := NB245_233.out
            have hnc47 := NB233_245.out
            have hnb48 := NB245_244.out
            have hnc48 := NB244_245.out
            obtain ⟨hcz49_0, hcz49_1, hfz49_0, hfz49_1⟩ := cz2_ BK245
            have hnb50 := NB232_231.out
            have hnc50 := NB231_232.out
            have hnb51 := NB232_233.out
            have hnc51 := NB233_232.out
            have hnb52 := NB232_244.out
            have hnc52 := NB244_232.out
            obtain ⟨hcz53_0, hcz53_1, hcz53_2, hcz53_3, hfz53_0, hfz53_1, hfz53_2, hfz53_3⟩ := cz4_ BK232
            go_wp2
            go_meet
            case rel => exact ⟨_, (true), rs_, H', le_, ⟨bk_ BK231⟩, ⟨bk_ BK232⟩, ⟨bk_ BK233⟩, ⟨bk_ BK244⟩, ⟨bk_ BK245⟩, ⟨bw_ HB⟩⟩
          · rw [if_neg c44] at H
            have c44b0 : decide (a1_2 < 0) = false := decide_eq_false c44
            clear c44
            by_cases c54 : a1_2 > 15
            · rw [if_pos c54] at H
              have c54b0 : decide (15 < a1_2) = true := decide_eq_true c54
              clear c54
              have H' := Aside0.mk H
              clear H
              have hnb55 := NB245_231.out
              have hnc55 := NB231_245.out
              have hnb56 := NB245_232.out
              have hnc56 := NB232_245.out
              have hnb57 := NB245_233.out
              have hnc57 := NB233_245.out
              have hnb58 := NB245_244.out
              have hnc58 := NB244_245.out
              obtain ⟨hcz59_0, hcz59_1, hfz59_0, hfz59_1⟩ := cz2_ BK245
              have hnb60 := NB232_231.out
              have hnc60 := NB231_232.out
              have hnb61 := NB232_233.out
              have hnc61 := NB233_232.out
              have hnb62 := NB232_244.out
              have hnc62 := NB244_232.out
              obtain ⟨hcz63_0, hcz63_1, hcz63_2, hcz63_3, hfz63_0, hfz63_1, hfz63_2, hfz63_3⟩ := cz4_ BK232
              go_wp2
              go_meet
              case rel => exact ⟨_, (true), rs_, H', le_, ⟨bk_ BK231⟩, ⟨bk_ BK232⟩, ⟨bk_ BK233⟩, ⟨bk_ BK244⟩, ⟨bk_ BK245⟩, ⟨bw_ HB⟩⟩
            · rw [if_neg c54] at H
              have c54b0 : decide (15 < a1_2) = false := decide_eq_false c54
              clear c54
              by_cases c64 : a1_3 < 0
              · rw [if_pos c64] at H
                have c64b0 : decide (a1_3 < 0) = true := decide_eq_true c64
                clear c64
                have H' := Aside0.mk H
                clear H
                have hnb65 := NB245_231.out
                have hnc65 := NB231_245.out
                have hnb66 := NB245_232.out
                have hnc66 := NB232_245.out
                have hnb67 := NB245_233.out
                have hnc67 := NB233_245.out
                have hnb68 := NB245_244.out
                have hnc68 := NB244_245.out
                obtain ⟨hcz69_0, hcz69_1, hfz69_0, hfz69_1⟩ := cz2_ BK245
                have hnb70 := NB232_231.out
                have hnc70 := NB231_232.out
                have hnb71 := NB232_233.out
                have hnc71 := NB233_232.out
                have hnb72 := NB232_244.out
                have hnc72 := NB244_232.out
                obtain ⟨hcz73_0, hcz73_1, hcz73_2, hcz73_3, hfz73_0, hfz73_1, hfz73_2, hfz73_3⟩ := cz4_ BK232
                go_wp2
                go_meet
                case rel => exact ⟨_, (true), rs_, H', le_, ⟨bk_ BK231⟩, ⟨bk_ BK232⟩, ⟨bk_ BK233⟩, ⟨bk_ BK244⟩, ⟨bk_ BK245⟩, ⟨bw_ HB⟩⟩
              · rw [if_neg c64] at H
                have c64b0 : decide (a1_3 < 0) = false := decide_eq_false c64
                clear c64
                have H' := Aside0.mk H
                clear H
                have hnb74 := NB245_231.out
                have hnc74 := NB231_245.out
                have hnb75 := NB245_232.out
                have hnc75 := NB232_245.out
                have hnb76 := NB245_233.out
                have hnc76 := NB233_245.out
                have hnb77 := NB245_244.out
                have hnc77 := NB244_245.out
                obtain ⟨hcz78_0, hcz78_1, hfz78_0, hfz78_1⟩ := cz2_ BK245
                have hnb79 := NB232_231.out
                have hnc79 := NB231_232.out
                have hnb80 := NB232_233.out
                have hnc80 := NB233_232.out
                have hnb81 := NB232_244.out
                have hnc81 := NB244_232.out
                obtain ⟨hcz82_0, hcz82_1, hcz82_2, hcz82_3, hfz82_0, hfz82_1, hfz82_2, hfz82_3⟩ := cz4_ BK232
                go_wp2
                go_meet
                case rel => exact ⟨_, (decide (a1_3 > 15)), rs_, H', le_, ⟨bk_ BK231⟩, ⟨bk_ BK232⟩, ⟨bk_ BK233⟩, ⟨bk_ BK244⟩, ⟨bk_ BK245⟩, ⟨bw_ HB⟩⟩
    · rw [if_neg c23] at H
      have c23b0 : (t242 == 0 && (t243 == 0)) = false := by simpa using c23
      (try (have c23b1 : decide (t242 = 0 && (t243 == 0)) = false := by simpa using c23))
      (try (have c23b2 : (t242 == 0 && (t243 == 0)) = false := by simpa using c23))
      (try (have c23b3 : ¬ (t242 = 0 && (t243 == 0)) := by simpa using c23))
      clear c23
      (first | rw [c23b0] | (simp only [i64_w, i32_w]; rw [c23b0]) | skip)
      have H' := Aside0.mk H
      clear H
      have hnb83 := NB245_231.out
      have hnc83 := NB231_245.out
      have hnb84 := NB245_232.out
      have hnc84 := NB232_245.out
      have hnb85 := NB245_233.out
      have hnc85 := NB233_245.out
      have hnb86 := NB245_244.out
      have hnc86 := NB244_245.out
      obtain ⟨hcz87_0, hcz87_1, hfz87_0, hfz87_1⟩ := cz2_ BK245
      go_wp2
      go_meet
      case rel => exact ⟨_, (false), rs_, H', le_, ⟨bk_ BK231⟩, ⟨bk_ BK232⟩, ⟨bk_ BK233⟩, ⟨bk_ BK244⟩, ⟨bk_ BK245⟩, ⟨bw_ HB⟩⟩
  case rest =>
    clear HC4
    (try clear c1); (try clear c2); (try clear p2); (try clear c3); (try clear c4); (try clear c5); (try clear c6); (try clear c7); (try clear c8); (try clear c9); (try clear c11); (try clear c14); (try clear c15); (try clear c16); (try clear c17); (try clear c19); (try clear c20); (try clear c21); (try clear c23); (try clear c23b0); (try clear c23b1); (try clear c23b2); (try clear c24); (try clear c24b0); (try clear c25); (try clear c26); (try clear c27); (try clear c28); (try clear c30); (try clear c31); (try clear c32); (try clear c34); (try clear c34b0); (try clear c35); (try clear c36); (try clear c37); (try clear c38); (try clear c40); (try clear c41); (try clear c42); (try clear c44); (try clear c44b0); (try clear c45); (try clear c46); (try clear c47); (try clear c48); (try clear c50); (try clear c51); (try clear c52); (try clear c54); (try clear c54b0); (try clear c55); (try clear c56); (try clear c57); (try clear c58); (try clear c60); (try clear c61); (try clear c62); (try clear c64); (try clear c64b0); (try clear c65); (try clear c66); (try clear c67); (try clear c68); (try clear c70); (try clear c71); (try clear c72); (try clear c74); (try clear c75); (try clear c76); (try clear c77); (try clear c79); (try clear c80); (try clear c81); (try clear c83); (try clear c84); (try clear c85); (try clear c86); (try clear hcz10_0); (try clear hcz10_1); (try clear hcz18_0); (try clear hcz18_1); (try clear hcz18_2); (try clear hcz18_3); (try clear hcz18_4); (try clear hcz18_5); (try clear hcz18_6); (try clear hcz18_7); (try clear hcz22_0); (try clear hcz22_1); (try clear hcz29_0); (try clear hcz29_1); (try clear hcz33_0); (try clear hcz33_1); (try clear hcz33_2); (try clear hcz33_3); (try clear hcz39_0); (try clear hcz39_1); (try clear hcz43_0); (try clear hcz43_1); (try clear hcz43_2); (try clear hcz43_3); (try clear hcz49_0); (try clear hcz49_1); (try clear hcz53_0); (try clear hcz53_1); (try clear hcz53_2); (try clear hcz53_3); (try clear hcz59_0); (try clear hcz59_1); (try clear hcz63_0); (try clear hcz63_1); (try clear hcz63_2); (try clear hcz63_3); (try clear hcz69_0); (try clear hcz69_1); (try clear hcz73_0); (try clear hcz73_1); (try clear hcz73_2); (try clear hcz73_3); (try clear hcz78_0); (try clear hcz78_1); (try clear hcz82_0); (try clear hcz82_1); (try clear hcz82_2); (try clear hcz82_3); (try clear hcz87_0); (try clear hcz87_1); (try clear hfz10_0); (try clear hfz10_1); (try clear hfz18_0); (try clear hfz18_1); (try clear hfz18_2); (try clear hfz18_3); (try clear hfz18_4); (try clear hfz18_5); (try clear hfz18_6); (try clear hfz18_7); (try clear hfz22_0); (try clear hfz22_1); (try clear hfz29_0); (try clear hfz29_1); (try clear hfz33_0); (try clear hfz33_1); (try clear hfz33_2); (try clear hfz33_3); (try clear hfz39_0); (try clear hfz39_1); (try clear hfz43_0); (try clear hfz43_1); (try clear hfz43_2); (try clear hfz43_3); (try clear hfz49_0); (try clear hfz49_1); (try clear hfz53_0); (try clear hfz53_1); (try clear hfz53_2); (try clear hfz53_3)
    (try clear hfz59_0); (try clear hfz59_1); (try clear hfz63_0); (try clear hfz63_1); (try clear hfz63_2); (try clear hfz63_3); (try clear hfz69_0); (try clear hfz69_1); (try clear hfz73_0); (try clear hfz73_1); (try clear hfz73_2); (try clear hfz73_3); (try clear hfz78_0); (try clear hfz78_1); (try clear hfz82_0); (try clear hfz82_1); (try clear hfz82_2); (try clear hfz82_3); (try clear hfz87_0); (try clear hfz87_1)
    obtain ⟨kq, x45_3, rfl, HA, HJ3, BK231, BK232, BK233, BK244, BK245, HB⟩ := hcut
    cases kq with
    | zero => exact absurd HA.out (by simp [effects_Dead.j0])
    | succ kj3 =>
      have H := HA.out
      clear HA
      simp only [effects_Dead.j0] at H
      by_cases c88 : x45_3 = true
      · subst c88
        have H1 : (some (false, 3, (-4))) = some (r1, r2, r3) := by rw [if_pos rfl] at H; exact H
        clear H
        have H := H1
        clear H1
        simp only [Option.some.injEq, Prod.mk.injEq] at H
        obtain ⟨rfl, rfl, rfl⟩ := H
        have hnb89 := NB245_231.out
        have hnc89 := NB231_245.out
        have hnb90 := NB245_232.out
        have hnc90 := NB232_245.out
        have hnb91 := NB245_233.out
        have hnc91 := NB233_245.out
        have hnb92 := NB245_244.out
        have hnc92 := NB244_245.out
        obtain ⟨hcz93_0, hcz93_1, hfz93_0, hfz93_1⟩ := cz2_ BK245
        try go_wp2
        have n0_ : Aside0 (((wc.setCell ⟨gb245, 0, none⟩ (.int .i64 3)).setCell ⟨gb245, 1, none⟩ (.int .i64 (-4))).heap[gb231]? = some (.cells #[.int .i64 a0_0, .slice A0_1 l0_1.length c0_1] 24 (0, 0))) := ⟨bk_ BK231⟩
        have n1_ : Aside0 (((wc.setCell ⟨gb245, 0, none⟩ (.int .i64 3)).setCell ⟨gb245, 1, none⟩ (.int .i64 (-4))).heap[gb232]? = some (.cells #[.int .i64 a1_0, .int .i64 a1_1, .int .i64 a1_2, .int .i64 a1_3] 36 (0, 0))) := ⟨bk_ BK232⟩
        have n2_ : Aside0 (((wc.setCell ⟨gb245, 0, none⟩ (.int .i64 3)).setCell ⟨gb245, 1, none⟩ (.int .i64 (-4))).heap[gb233]? = some (.cells #[.int .i64 0, .int .i64 0] 28 (0, 0))) := ⟨bk_ BK233⟩
        have n3_ : Aside0 (((wc.setCell ⟨gb245, 0, none⟩ (.int .i64 3)).setCell ⟨gb245, 1, none⟩ (.int .i64 (-4))).heap[gb244]? = some (.cells #[.int .i64 t234, .int .i64 t235, .int .i64 t236, .int .i64 t237, .int .i64 t238, .int .i64 t239, .bool t240, .bool t241] 26 (0, 0))) := ⟨bk_ BK244⟩
        have n4_ : Aside0 (((wc.setCell ⟨gb245, 0, none⟩ (.int .i64 3)).setCell ⟨gb245, 1, none⟩ (.int .i64 (-4))).heap[gb245]? = some (.cells #[.int .i64 3, .int .i64 (-4)] 28 (0, 0))) := ⟨bk_ BK245⟩
        have n5_ : Aside0 (Below w.heap.size w ((wc.setCell ⟨gb245, 0, none⟩ (.int .i64 3)).setCell ⟨gb245, 1, none⟩ (.int .i64 (-4)))) := ⟨bw_ HB⟩
        (try clear BK231)
        (try clear BK232)
        (try clear BK233)
        (try clear BK244)
        (try clear BK245)
        (try clear HB)
        generalize ((wc.setCell ⟨gb245, 0, none⟩ (.int .i64 3)).setCell ⟨gb245, 1, none⟩ (.int .i64 (-4))) = w94 at n0_ n1_ n2_ n3_ n4_ n5_ ⊢
        have BK231 := n0_
        have BK232 := n1_
        have BK233 := n2_
        have BK244 := n3_
        have BK245 := n4_
        have HB := n5_
        clear n0_ n1_ n2_ n3_ n4_ n5_
        have n0_ := Aside0.mk (blk_drew BK231.out)
        have n1_ := Aside0.mk (blk_drew BK232.out)
        have n2_ := Aside0.mk (blk_drew BK233.out)
        have n3_ := Aside0.mk (blk_drew BK244.out)
        have n4_ := Aside0.mk (blk_drew BK245.out)
        have n5_ := Aside0.mk (below_drew1 HB.out)
        clear BK231
        clear BK232
        clear BK233
        clear BK244
        clear BK245
        clear HB
        have BK231 := n0_
        have BK232 := n1_
        have BK233 := n2_
        have BK244 := n3_
        have BK245 := n4_
        have HB := n5_
        clear n0_ n1_ n2_ n3_ n4_ n5_
        refine start_ (n := 3) (S := fun w' => w'.cell? ⟨gb245, 0, none⟩ = some (.int .i64 3) ∧ w'.cell? ⟨gb245, 1, none⟩ = some (.int .i64 (-4))) (ds := []) #[false, false, false] (by kernel_rfl) rfl rfl ⟨(blk_cell BK245.out 0).trans rfl, (blk_cell BK245.out 1).trans rfl⟩ (fun hHeld => ?_)
        generalize w94.drew = w95 at BK231 BK232 BK233 BK244 BK245 HB hHeld ⊢
        refine pure_ (i := 1) (N := some 4) (v := ?_) (a' := ?_) #[false, true, false] rfl rfl (by kernel_rfl) (fun _ _ _ h => h) (Or.inl ⟨by rfl, ?_⟩) ?_ ?_
        rotate_left
        · intro w'
          go_simp
          with_reducible rfl
        rotate_left
        · simp only [Act.put, List.setIfInBounds_toArray, List.set_cons_zero, List.set_cons_succ, i64_w, i32_w]
          rfl
        refine take_ (i := 0) (N := some 50) (v := ?_) (a' := ?_) #[true, true, false] rfl rfl (by kernel_rfl) (fun _ _ _ h => h) (Or.inl ⟨by rfl, ?_⟩) hHeld ?_ ?_
        rotate_left
        · rintro w' ⟨s0, s1⟩
          go_simp
          with_reducible rfl
        rotate_left
        · simp only [Act.put, List.setIfInBounds_toArray, List.set_cons_zero, List.set_cons_succ, i64_w, i32_w]
          rfl
        refine one_ (i := 2) (N := none) #[true, true, true] rfl rfl (by kernel_rfl) (by decide) (fun K hK => ?_)
        have hs96 : w95.cell? ⟨gb233, 0, none⟩ = some (.int .i64 0) := (blk_cell BK233.out 0).trans rfl
        have hfs96 := blk_frozen BK233.out 0
        have hns96_0 := NB231_233.out
        have hns96_1 := NB232_233.out
        have hns96_3 := NB244_233.out
        have hns96_4 := NB245_233.out
        have hms96_0 := NB233_231.out
        have hms96_1 := NB233_232.out
        have hms96_3 := NB233_244.out
        have hms96_4 := NB233_245.out
        have hs97 : w95.cell? ⟨gb233, 1, none⟩ = some (.int .i64 0) := (blk_cell BK233.out 1).trans rfl
        have hfs97 := blk_frozen BK233.out 1
        have hns97_0 := NB231_233.out
        have hns97_1 := NB232_233.out
        have hns97_3 := NB244_233.out
        have hns97_4 := NB245_233.out
        have hms97_0 := NB233_231.out
        have hms97_1 := NB233_232.out
        have hms97_3 := NB233_244.out
        have hms97_4 := NB233_245.out
        with_reducible refine skip_ (w1 := ?w1_1) ?ha_1 ?hb_1 ?hc_1 ?hd_1
        case ha_1 => rfl
        case hb_1 => rfl
        case hc_1 =>
          go_simp
          rfl
        refine hK.out _ _ ⟨((cell_far (p := ⟨gb233, _, none⟩) NB245_233.out _).trans (((cell_far (p := ⟨gb233, _, none⟩) NB245_233.out _).trans (hHeld.1)))), ((cell_far (p := ⟨gb233, _, none⟩) NB245_233.out _).trans (((cell_far (p := ⟨gb233, _, none⟩) NB245_233.out _).trans (hHeld.2))))⟩ (fun hHeld => ?_)
        clear hK K
        refine done_ (by kernel_rfl) ?_
        try go_wp2
        refine bodyPost_ret (results_tc rfl _ _ gb233 28 #[.int .i64 3, .int .i64 (-4)] (0, 0) _ rfl (bk_ BK233) Try.underlying28 rfl (by kernel_rfl)) rfl ?_
        exact ⟨id_, bw_ HB⟩
      · replace c88 := Bool.eq_false_iff.mpr c88
        subst c88
        have H1 : (if (!(t242 == 0) || (!(t243 == 0))) = true then (some (false, t242, t243)) else ((effects_simple.f kj3 a0_0 l0_1).bind fun t246 => (if t246 = true then (if (Go.bits .and .i64 t235 a1_1) = 0 then (if (Go.bits .and .i64 t237 a1_2) = 0 then (some (((Go.bits .and .i64 t239 a1_3) == 0), t242, t243)) else (some (false, t242, t243))) else (some (false, t242, t243))) else (some (false, t242, t243))))) = some (r1, r2, r3) := by rw [if_neg (show ¬ (false = true) by decide)] at H; exact H
        clear H
        have H := H1
        clear H1
        by_cases c98 : (!(t242 == 0) || (!(t243 == 0))) = true
        · rw [if_pos c98] at H
          have c98b0 : (!(t242 == 0) || (!(t243 == 0))) = true := c98
          clear c98
          simp only [Option.some.injEq, Prod.mk.injEq] at H
          obtain ⟨rfl, rfl, rfl⟩ := H
          have hnb99 := NB245_231.out
          have hnc99 := NB231_245.out
          have hnb100 := NB245_232.out
          have hnc100 := NB232_245.out
          have hnb101 := NB245_233.out
          have hnc101 := NB233_245.out
          have hnb102 := NB245_244.out
          have hnc102 := NB244_245.out
          obtain ⟨hcz103_0, hcz103_1, hfz103_0, hfz103_1⟩ := cz2_ BK245
          try go_wp2
          have n0_ := Aside0.mk (blk_drew BK231.out)
          have n1_ := Aside0.mk (blk_drew BK232.out)
          have n2_ := Aside0.mk (blk_drew BK233.out)
          have n3_ := Aside0.mk (blk_drew BK244.out)
          have n4_ := Aside0.mk (blk_drew BK245.out)
          have n5_ := Aside0.mk (below_drew1 HB.out)
          clear BK231
          clear BK232
          clear BK233
          clear BK244
          clear BK245
          clear HB
          have BK231 := n0_
          have BK232 := n1_
          have BK233 := n2_
          have BK244 := n3_
          have BK245 := n4_
          have HB := n5_
          clear n0_ n1_ n2_ n3_ n4_ n5_
          refine start_ (n := 3) (S := fun w' => w'.cell? ⟨gb245, 0, none⟩ = some (.int .i64 t242) ∧ w'.cell? ⟨gb245, 1, none⟩ = some (.int .i64 t243)) (ds := []) #[false, false, false] (by kernel_rfl) rfl rfl ⟨(blk_cell BK245.out 0).trans rfl, (blk_cell BK245.out 1).trans rfl⟩ (fun hHeld => ?_)
          generalize wc.drew = w104 at BK231 BK232 BK233 BK244 BK245 HB hHeld ⊢
          refine pure_ (i := 1) (N := some 4) (v := ?_) (a' := ?_) #[false, true, false] rfl rfl (by kernel_rfl) (fun _ _ _ h => h) (Or.inl ⟨by rfl, ?_⟩) ?_ ?_
          rotate_left
          · intro w'
            go_simp
            with_reducible rfl
          rotate_left
          · simp only [Act.put, List.setIfInBounds_toArray, List.set_cons_zero, List.set_cons_succ, i64_w, i32_w]
            rfl
          refine take_ (i := 0) (N := some 50) (v := ?_) (a' := ?_) #[true, true, false] rfl rfl (by kernel_rfl) (fun _ _ _ h => h) (Or.inl ⟨by rfl, ?_⟩) hHeld ?_ ?_
          rotate_left
          · rintro w' ⟨s0, s1⟩
            go_simp
            with_reducible rfl
          rotate_left
          · simp only [Act.put, List.setIfInBounds_toArray, List.set_cons_zero, List.set_cons_succ, i64_w, i32_w]
            rfl
          refine one_ (i := 2) (N := none) #[true, true, true] rfl rfl (by kernel_rfl) (by decide) (fun K hK => ?_)
          have hs105 : w104.cell? ⟨gb233, 0, none⟩ = some (.int .i64 0) := (blk_cell BK233.out 0).trans rfl
          have hfs105 := blk_frozen BK233.out 0
          have hns105_0 := NB231_233.out
          have hns105_1 := NB232_233.out
          have hns105_3 := NB244_233.out
          have hns105_4 := NB245_233.out
          have hms105_0 := NB233_231.out
          have hms105_1 := NB233_232.out
          have hms105_3 := NB233_244.out
          have hms105_4 := NB233_245.out
          have hs106 : w104.cell? ⟨gb233, 1, none⟩ = some (.int .i64 0) := (blk_cell BK233.out 1).trans rfl
          have hfs106 := blk_frozen BK233.out 1
          have hns106_0 := NB231_233.out
          have hns106_1 := NB232_233.out
          have hns106_3 := NB244_233.out
          have hns106_4 := NB245_233.out
          have hms106_0 := NB233_231.out
          have hms106_1 := NB233_232.out
          have hms106_3 := NB233_244.out
          have hms106_4 := NB233_245.out
          with_reducible refine skip_ (w1 := ?w1_2) ?ha_2 ?hb_2 ?hc_2 ?hd_2
          case ha_2 => rfl
          case hb_2 => rfl
          case hc_2 =>
            go_simp
            rfl
          refine hK.out _ _ ⟨((cell_far (p := ⟨gb233, _, none⟩) NB245_233.out _).trans (((cell_far (p := ⟨gb233, _, none⟩) NB245_233.out _).trans (hHeld.1)))), ((cell_far (p := ⟨gb233, _, none⟩) NB245_233.out _).trans (((cell_far (p := ⟨gb233, _, none⟩) NB245_233.out _).trans (hHeld.2))))⟩ (fun hHeld => ?_)
          clear hK K
          refine done_ (by kernel_rfl) ?_
          try go_wp2
          refine bodyPost_ret (results_tc rfl _ _ gb233 28 #[.int .i64 t242, .int .i64 t243] (0, 0) _ rfl (bk_ BK233) Try.underlying28 rfl (by kernel_rfl)) rfl ?_
          exact ⟨id_, bw_ HB⟩
        · rw [if_neg c98] at H
          have c98b0 : (!(t242 == 0) || (!(t243 == 0))) = false := by simpa using c98
          clear c98
          replace H := Option.bind_eq_some_iff.mp H
          obtain ⟨t246, A1070, H⟩ := H
          replace H : (if t246 = true then (if (Go.bits .and .i64 t235 a1_1) = 0 then (if (Go.bits .and .i64 t237 a1_2) = 0 then (some (((Go.bits .and .i64 t239 a1_3) == 0), t242, t243)) else (some (false, t242, t243))) else (some (false, t242, t243))) else (some (false, t242, t243))) = some (r1, r2, r3) := H
          have A107 := Aside0.mk A1070
          clear A1070
          by_cases c108 : t246 = true
          · subst c108
            have H1 : (if (Go.bits .and .i64 t235 a1_1) = 0 then (if (Go.bits .and .i64 t237 a1_2) = 0 then (some (((Go.bits .and .i64 t239 a1_3) == 0), t242, t243)) else (some (false, t242, t243))) else (some (false, t242, t243))) = some (r1, r2, r3) := by rw [if_pos rfl] at H; exact H
            clear H
            have H := H1
            clear H1
            by_cases c109 : (Go.bits .and .i64 t235 a1_1) = 0
            · rw [if_pos c109] at H
              have c109b0 : ((Go.bits .and .i64 t235 a1_1) == 0) = true := beq_iff_eq.mpr c109
              have c109b1 : ((Go.bits .and .i64 t235 a1_1) != 0) = false := bne_eq_false_iff_eq.mpr c109
              clear c109
              by_cases c110 : (Go.bits .and .i64 t237 a1_2) = 0
              · rw [if_pos c110] at H
                have c110b0 : ((Go.bits .and .i64 t237 a1_2) == 0) = true := beq_iff_eq.mpr c110
                have c110b1 : ((Go.bits .and .i64 t237 a1_2) != 0) = false := bne_eq_false_iff_eq.mpr c110
                clear c110
                simp only [Option.some.injEq, Prod.mk.injEq] at H
                obtain ⟨rfl, rfl, rfl⟩ := H
                have hnb111 := NB245_231.out
                have hnc111 := NB231_245.out
                have hnb112 := NB245_232.out
                have hnc112 := NB232_245.out
                have hnb113 := NB245_233.out
                have hnc113 := NB233_245.out
                have hnb114 := NB245_244.out
                have hnc114 := NB244_245.out
                obtain ⟨hcz115_0, hcz115_1, hfz115_0, hfz115_1⟩ := cz2_ BK245
                try go_wp2
                have n0_ := Aside0.mk (blk_drew BK231.out)
                have n1_ := Aside0.mk (blk_drew BK232.out)
                have n2_ := Aside0.mk (blk_drew BK233.out)
                have n3_ := Aside0.mk (blk_drew BK244.out)
                have n4_ := Aside0.mk (blk_drew BK245.out)
                have n5_ := Aside0.mk (below_drew1 HB.out)
                clear BK231
                clear BK232
                clear BK233
                clear BK244
                clear BK245
                clear HB
                have BK231 := n0_
                have BK232 := n1_
                have BK233 := n2_
                have BK244 := n3_
                have BK245 := n4_
                have HB := n5_
                clear n0_ n1_ n2_ n3_ n4_ n5_
                refine start_ (n := 29) (S := fun w' => w'.cell? ⟨gb231, 0, none⟩ = some (.int .i64 a0_0) ∧ w'.cell? ⟨gb231, 1, none⟩ = some (.slice A0_1 l0_1.length c0_1) ∧ w'.cell? ⟨gb245, 0, none⟩ = some (.int .i64 t242) ∧ w'.cell? ⟨gb245, 1, none⟩ = some (.int .i64 t243) ∧ w'.cell? ⟨gb244, 0, none⟩ = some (.int .i64 t234) ∧ w'.cell? ⟨gb244, 1, none⟩ = some (.int .i64 t235) ∧ w'.cell? ⟨gb244, 2, none⟩ = some (.int .i64 t236) ∧ w'.cell? ⟨gb244, 3, none⟩ = some (.int .i64 t237) ∧ w'.cell? ⟨gb244, 4, none⟩ = some (.int .i64 t238) ∧ w'.cell? ⟨gb244, 5, none⟩ = some (.int .i64 t239) ∧ w'.cell? ⟨gb244, 6, none⟩ = some (.bool t240) ∧ w'.cell? ⟨gb244, 7, none⟩ = some (.bool t241) ∧ w'.cell? ⟨gb232, 0, none⟩ = some (.int .i64 a1_0) ∧ w'.cell? ⟨gb232, 1, none⟩ = some (.int .i64 a1_1) ∧ w'.cell? ⟨gb232, 2, none⟩ = some (.int .i64 a1_2) ∧ w'.cell? ⟨gb232, 3, none⟩ = some (.int .i64 a1_3)) (ds := []) #[false, false, false, false, false, false, false, false, false, false, false, false, false, false, false, false, false, false, false, false, false, false, false, false, false, false, false, false, false] (by kernel_rfl) rfl rfl ⟨(blk_cell BK231.out 0).trans rfl, (blk_cell BK231.out 1).trans rfl, (blk_cell BK245.out 0).trans rfl, (blk_cell BK245.out 1).trans rfl, (blk_cell BK244.out 0).trans rfl, (blk_cell BK244.out 1).trans rfl, (blk_cell BK244.out 2).trans rfl, (blk_cell BK244.out 3).trans rfl, (blk_cell BK244.out 4).trans rfl, (blk_cell BK244.out 5).trans rfl, (blk_cell BK244.out 6).trans rfl, (blk_cell BK244.out 7).trans rfl, (blk_cell BK232.out 0).trans rfl, (blk_cell BK232.out 1).trans rfl, (blk_cell BK232.out 2).trans rfl, (blk_cell BK232.out 3).trans rfl⟩ (fun hHeld => ?_); refine with_tabW effects_Dead.tab6 effects_Dead.bits6 (fun HT_ HW_ => ?_)
                generalize wc.drew = w116 at BK231 BK232 BK233 BK244 BK245 HB hHeld ⊢
                refine take_ (i := 0) (N := some 51) (v := ?_) (a' := ?_) #[true, false, false, false, false, false, false, false, false, false, false, false, false, false, false, false, false, false, false, false, false, false, false, false, false, false, false, false, false] rfl rfl (take_ofW HT_.out HW_.out (by kernel_rfl)) (fun _ _ _ h => h) (Or.inl ⟨by rfl, ?_⟩) hHeld ?_ ?_
                rotate_left
                · rintro w' ⟨s0, s1, s2, s3, s4, s5, s6, s7, s8, s9, s10, s11, s12, s13, s14, s15⟩
                  go_simp
                  with_reducible rfl
                rotate_left
                · simp only [Act.put, List.setIfInBounds_toArray, List.set_cons_zero, List.set_cons_succ, i64_w, i32_w]
                  rfl
                refine take_ (i := 26) (N := some 77) (v := ?_) (a' := ?_) #[true, false, false, false, false, false, false, false, false, false, false, false, false, false, false, false, false, false, false, false, false, false, false, false, false, false, true, false, false] rfl rfl (take_ofW HT_.out HW_.out (by kernel_rfl)) (fun _ _ _ h => h) (Or.inl ⟨by rfl, ?_⟩) hHeld ?_ ?_
                rotate_left
                · rintro w' ⟨s0, s1, s2, s3, s4, s5, s6, s7, s8, s9, s10, s11, s12, s13, s14, s15⟩
                  go_simp
                  with_reducible rfl
                rotate_left
                · simp only [Act.put, List.setIfInBounds_toArray, List.set_cons_zero, List.set_cons_succ, i64_w, i32_w]
                  rfl
                refine one_ (i := 1) (N := some 52) #[true, true, false, false, false, false, false, false, false, false, false, false, false, false, false, false, false, false, false, false, false, false, false, false, false, false, true, false, false] rfl rfl (one_of HT_.out (by kernel_rfl)) (by decide) (fun K hK => ?_)
                refine goes_ Try.func40 (by kernel_rfl) rfl #[.agg #[.int .i64 a0_0, .slice A0_1 l0_1.length c0_1]] (by rfl) rfl rfl ar_ ?_
                with_reducible refine (effects_simple.calls kj3 a0_0 _ _ l0_1 true _ ?side1 ?side2 A107.out).mono ?_
                (case side1 => exact cb_ HR0_1 HB)
                (case side2 => exact HC0_1.out)
                rintro e w117 ⟨rfl, hb⟩
                refine ⟨_, rfl, ?_⟩
                have n0_ := Aside0.mk (blk_below (g := gb231) (o := .cells #[.int .i64 a0_0, .slice A0_1 l0_1.length c0_1] 24 (0, 0)) (bk_ BK231) hb)
                have n1_ := Aside0.mk (blk_below (g := gb232) (o := .cells #[.int .i64 a1_0, .int .i64 a1_1, .int .i64 a1_2, .int .i64 a1_3] 36 (0, 0)) (bk_ BK232) hb)
                have n2_ := Aside0.mk (blk_below (g := gb233) (o := .cells #[.int .i64 0, .int .i64 0] 28 (0, 0)) (bk_ BK233) hb)
                have n3_ := Aside0.mk (blk_below (g := gb244) (o := .cells #[.int .i64 t234, .int .i64 t235, .int .i64 t236, .int .i64 t237, .int .i64 t238, .int .i64 t239, .bool t240, .bool t241] 26 (0, 0)) (bk_ BK244) hb)
                have n4_ := Aside0.mk (blk_below (g := gb245) (o := .cells #[.int .i64 t242, .int .i64 t243] 28 (0, 0)) (bk_ BK245) hb)
                have n5_ := Aside0.mk (below_step (bw_ HB) hb)
                clear BK231
                clear BK232
                clear BK233
                clear BK244
                clear BK245
                clear HB
                have BK231 := n0_
                have BK232 := n1_
                have BK233 := n2_
                have BK244 := n3_
                have BK245 := n4_
                have HB := n5_
                clear n0_ n1_ n2_ n3_ n4_ n5_
                (try clear hb)
                (try clear hb2)
                (try clear hk)
                (try clear hi)
                refine hK.out _ _ ⟨(blk_cell BK231.out 0).trans rfl, (blk_cell BK231.out 1).trans rfl, (blk_cell BK245.out 0).trans rfl, (blk_cell BK245.out 1).trans rfl, (blk_cell BK244.out 0).trans rfl, (blk_cell BK244.out 1).trans rfl, (blk_cell BK244.out 2).trans rfl, (blk_cell BK244.out 3).trans rfl, (blk_cell BK244.out 4).trans rfl, (blk_cell BK244.out 5).trans rfl, (blk_cell BK244.out 6).trans rfl, (blk_cell BK244.out 7).trans rfl, (blk_cell BK232.out 0).trans rfl, (blk_cell BK232.out 1).trans rfl, (blk_cell BK232.out 2).trans rfl, (blk_cell BK232.out 3).trans rfl⟩ (fun hHeld => ?_)
                clear hK K
                refine norm_ (a' := ?_) ?_ ?_
                rotate_left
                · show Act.put _ (some 52) _ = _
                  simp only [Act.put, List.setIfInBounds_toArray, List.set_cons_zero, List.set_cons_succ, i64_w, i32_w]
                  rfl
                refine pure_ (i := 2) (N := some 53) (v := ?_) (a' := ?_) #[true, true, true, false, false, false, false, false, false, false, false, false, false, false, false, false, false, false, false, false, false, false, false, false, false, false, true, false, false] rfl rfl (any_of HT_.out (by kernel_rfl)) (fun _ _ _ h => h) (Or.inl ⟨by rfl, ?_⟩) ?_ ?_
                rotate_left
                · intro w'
                  go_simp
                  with_reducible rfl
                rotate_left
                · simp only [Act.put, List.setIfInBounds_toArray, List.set_cons_zero, List.set_cons_succ, i64_w, i32_w]
                  rfl
                refine pure_ (i := 3) (N := some 54) (v := ?_) (a' := ?_) #[true, true, true, true, false, false, false, false, false, false, false, false, false, false, false, false, false, false, false, false, false, false, false, false, false, false, true, false, false] rfl rfl (any_of HT_.out (by kernel_rfl)) (fun _ _ _ h => h) (Or.inl ⟨by rfl, ?_⟩) ?_ ?_
                rotate_left
                · intro w'
                  go_simp
                  with_reducible rfl
                rotate_left
                · simp only [Act.put, List.setIfInBounds_toArray, List.set_cons_zero, List.set_cons_succ, i64_w, i32_w]
                  rfl
                refine pure_ (i := 5) (N := some 56) (v := ?_) (a' := ?_) #[true, true, true, true, false, true, false, false, false, false, false, false, false, false, false, false, false, false, false, false, false, false, false, false, false, false, true, false, false] rfl rfl (any_of HT_.out (by kernel_rfl)) (fun _ _ _ h => h) (Or.inl ⟨by rfl, ?_⟩) ?_ ?_
                rotate_left
                · intro w'
                  go_simp
                  with_reducible rfl
                rotate_left
                · simp only [Act.put, List.setIfInBounds_toArray, List.set_cons_zero, List.set_cons_succ, i64_w, i32_w]
                  rfl
                refine take_ (i := 4) (N := some 55) (v := ?_) (a' := ?_) #[true, true, true, true, true, true, false, false, false, false, false, false, false, false, false, false, false, false, false, false, false, false, false, false, false, false, true, false, false] rfl rfl (take_ofW HT_.out HW_.out (by kernel_rfl)) (fun _ _ _ h => h) (Or.inl ⟨by rfl, ?_⟩) hHeld ?_ ?_
                rotate_left
                · rintro w' ⟨s0, s1, s2, s3, s4, s5, s6, s7, s8, s9, s10, s11, s12, s13, s14, s15⟩
                  go_simp
                  with_reducible rfl
                rotate_left
                · simp only [Act.put, List.setIfInBounds_toArray, List.set_cons_zero, List.set_cons_succ, i64_w, i32_w]
                  rfl
                refine take_ (i := 6) (N := some 57) (v := ?_) (a' := ?_) #[true, true, true, true, true, true, true, false, false, false, false, false, false, false, false, false, false, false, false, false, false, false, false, false, false, false, true, false, false] rfl rfl (take_ofW HT_.out HW_.out (by kernel_rfl)) (fun _ _ _ h => h) (Or.inl ⟨by rfl, ?_⟩) hHeld ?_ ?_
                rotate_left
                · rintro w' ⟨s0, s1, s2, s3, s4, s5, s6, s7, s8, s9, s10, s11, s12, s13, s14, s15⟩
                  go_simp
                  with_reducible rfl
                rotate_left
                · simp only [Act.put, List.setIfInBounds_toArray, List.set_cons_zero, List.set_cons_succ, i64_w, i32_w]
                  rfl
                refine pure_ (i := 7) (N := some 58) (v := ?_) (a' := ?_) #[true, true, true, true, true, true, true, true, false, false, false, false, false, false, false, false, false, false, false, false, false, false, false, false, false, false, true, false, false] rfl rfl (any_of HT_.out (by kernel_rfl)) (fun _ _ _ h => h) (Or.inl ⟨by rfl, ?_⟩) ?_ ?_
                rotate_left
                · intro w'
                  go_simp
                  with_reducible rfl
                rotate_left
                · simp only [Act.put, List.setIfInBounds_toArray, List.set_cons_zero, List.set_cons_succ, i64_w, i32_w]
                  rfl
                refine pure_ (i := 8) (N := some 59) (v := ?_) (a' := ?_) #[true, true, true, true, true, true, true, true, true, false, false, false, false, false, false, false, false, false, false, false, false, false, false, false, false, false, true, false, false] rfl rfl (any_of HT_.out (by kernel_rfl)) (fun _ _ _ h => h) (Or.inl ⟨by rfl, ?_⟩) ?_ ?_
                rotate_left
                · intro w'
                  go_simp
                  with_reducible rfl
                rotate_left
                · simp only [Act.put, List.setIfInBounds_toArray, List.set_cons_zero, List.set_cons_succ, i64_w, i32_w]
                  rfl
                refine pure_ (i := 9) (N := some 60) (v := ?_) (a' := ?_) #[true, true, true, true, true, true, true, true, true, true, false, false, false, false, false, false, false, false, false, false, false, false, false, false, false, false, true, false, false] rfl rfl (any_of HT_.out (by kernel_rfl)) (fun _ _ _ h => h) (Or.inl ⟨by rfl, ?_⟩) ?_ ?_
                rotate_left
                · intro w'
                  go_simp
                  with_reducible rfl
                rotate_left
                · simp only [Act.put, List.setIfInBounds_toArray, List.set_cons_zero, List.set_cons_succ, i64_w, i32_w]
                  rfl
                refine pure_ (i := 10) (N := some 61) (v := ?_) (a' := ?_) #[true, true, true, true, true, true, true, true, true, true, true, false, false, false, false, false, false, false, false, false, false, false, false, false, false, false, true, false, false] rfl rfl (any_of HT_.out (by kernel_rfl)) (fun _ _ _ h => h) (Or.inl ⟨by rfl, ?_⟩) ?_ ?_
                rotate_left
                · intro w'
                  go_simp
                  with_reducible rfl
                rotate_left
                · simp only [Act.put, List.setIfInBounds_toArray, List.set_cons_zero, List.set_cons_succ, i64_w, i32_w]
                  rfl
                refine pure_ (i := 11) (N := some 62) (v := ?_) (a' := ?_) #[true, true, true, true, true, true, true, true, true, true, true, true, false, false, false, false, false, false, false, false, false, false, false, false, false, false, true, false, false] rfl rfl (any_of HT_.out (by kernel_rfl)) (fun _ _ _ h => h) (Or.inl ⟨by rfl, ?_⟩) ?_ ?_
                rotate_left
                · intro w'
                  go_simp
                  with_reducible rfl
                rotate_left
                · simp only [Act.put, List.setIfInBounds_toArray, List.set_cons_zero, List.set_cons_succ, i64_w, i32_w]
                  rfl
                refine pure_ (i := 13) (N := some 64) (v := ?_) (a' := ?_) #[true, true, true, true, true, true, true, true, true, true, true, true, false, true, false, false, false, false, false, false, false, false, false, false, false, false, true, false, false] rfl rfl (any_of HT_.out (by kernel_rfl)) (fun _ _ _ h => h) (Or.inl ⟨by rfl, ?_⟩) ?_ ?_
                rotate_left
                · intro w'
                  go_simp
                  with_reducible rfl
                rotate_left
                · simp only [Act.put, List.setIfInBounds_toArray, List.set_cons_zero, List.set_cons_succ, i64_w, i32_w]
                  rfl
                refine take_ (i := 12) (N := some 63) (v := ?_) (a' := ?_) #[true, true, true, true, true, true, true, true, true, true, true, true, true, true, false, false, false, false, false, false, false, false, false, false, false, false, true, false, false] rfl rfl (take_ofW HT_.out HW_.out (by kernel_rfl)) (fun _ _ _ h => h) (Or.inl ⟨by rfl, ?_⟩) hHeld ?_ ?_
                rotate_left
                · rintro w' ⟨s0, s1, s2, s3, s4, s5, s6, s7, s8, s9, s10, s11, s12, s13, s14, s15⟩
                  go_simp
                  with_reducible rfl
                rotate_left
                · simp only [Act.put, List.setIfInBounds_toArray, List.set_cons_zero, List.set_cons_succ, i64_w, i32_w]
                  rfl
                refine take_ (i := 14) (N := some 65) (v := ?_) (a' := ?_) #[true, true, true, true, true, true, true, true, true, true, true, true, true, true, true, false, false, false, false, false, false, false, false, false, false, false, true, false, false] rfl rfl (take_ofW HT_.out HW_.out (by kernel_rfl)) (fun _ _ _ h => h) (Or.inl ⟨by rfl, ?_⟩) hHeld ?_ ?_
                rotate_left
                · rintro w' ⟨s0, s1, s2, s3, s4, s5, s6, s7, s8, s9, s10, s11, s12, s13, s14, s15⟩
                  go_simp
                  with_reducible rfl
                rotate_left
                · simp only [Act.put, List.setIfInBounds_toArray, List.set_cons_zero, List.set_cons_succ, i64_w, i32_w]
                  rfl
                refine pure_ (i := 15) (N := some 66) (v := ?_) (a' := ?_) #[true, true, true, true, true, true, true, true, true, true, true, true, true, true, true, true, false, false, false, false, false, false, false, false, false, false, true, false, false] rfl rfl (any_of HT_.out (by kernel_rfl)) (fun _ _ _ h => h) (Or.inl ⟨by rfl, ?_⟩) ?_ ?_
                rotate_left
                · intro w'
                  go_simp
                  with_reducible rfl
                rotate_left
                · simp only [Act.put, List.setIfInBounds_toArray, List.set_cons_zero, List.set_cons_succ, i64_w, i32_w]
                  rfl
                refine pure_ (i := 16) (N := some 67) (v := ?_) (a' := ?_) #[true, true, true, true, true, true, true, true, true, true, true, true, true, true, true, true, true, false, false, false, false, false, false, false, false, false, true, false, false] rfl rfl (any_of HT_.out (by kernel_rfl)) (fun _ _ _ h => h) (Or.inl ⟨by rfl, ?_⟩) ?_ ?_
                rotate_left
                · intro w'
                  go_simp
                  with_reducible rfl
                rotate_left
                · simp only [Act.put, List.setIfInBounds_toArray, List.set_cons_zero, List.set_cons_succ, i64_w, i32_w]
                  rfl
                refine pure_ (i := 17) (N := some 68) (v := ?_) (a' := ?_) #[true, true, true, true, true, true, true, true, true, true, true, true, true, true, true, true, true, true, false, false, false, false, false, false, false, false, true, false, false] rfl rfl (any_of HT_.out (by kernel_rfl)) (fun _ _ _ h => h) (Or.inl ⟨by rfl, ?_⟩) ?_ ?_
                rotate_left
                · intro w'
                  go_simp
                  with_reducible rfl
                rotate_left
                · simp only [Act.put, List.setIfInBounds_toArray, List.set_cons_zero, List.set_cons_succ, i64_w, i32_w]
                  rfl
                refine pure_ (i := 18) (N := some 69) (v := ?_) (a' := ?_) #[true, true, true, true, true, true, true, true, true, true, true, true, true, true, true, true, true, true, true, false, false, false, false, false, false, false, true, false, false] rfl rfl (any_of HT_.out (by kernel_rfl)) (fun _ _ _ h => h) (Or.inl ⟨by rfl, ?_⟩) ?_ ?_
                rotate_left
                · intro w'
                  go_simp
                  with_reducible rfl
                rotate_left
                · simp only [Act.put, List.setIfInBounds_toArray, List.set_cons_zero, List.set_cons_succ, i64_w, i32_w]
                  rfl
                refine pure_ (i := 19) (N := some 70) (v := ?_) (a' := ?_) #[true, true, true, true, true, true, true, true, true, true, true, true, true, true, true, true, true, true, true, true, false, false, false, false, false, false, true, false, false] rfl rfl (any_of HT_.out (by kernel_rfl)) (fun _ _ _ h => h) (Or.inl ⟨by rfl, ?_⟩) ?_ ?_
                rotate_left
                · intro w'
                  go_simp
                  with_reducible rfl
                rotate_left
                · simp only [Act.put, List.setIfInBounds_toArray, List.set_cons_zero, List.set_cons_succ, i64_w, i32_w]
                  rfl
                refine pure_ (i := 21) (N := some 72) (v := ?_) (a' := ?_) #[true, true, true, true, true, true, true, true, true, true, true, true, true, true, true, true, true, true, true, true, false, true, false, false, false, false, true, false, false] rfl rfl (any_of HT_.out (by kernel_rfl)) (fun _ _ _ h => h) (Or.inl ⟨by rfl, ?_⟩) ?_ ?_
                rotate_left
                · intro w'
                  go_simp
                  with_reducible rfl
                rotate_left
                · simp only [Act.put, List.setIfInBounds_toArray, List.set_cons_zero, List.set_cons_succ, i64_w, i32_w]
                  rfl
                refine take_ (i := 20) (N := some 71) (v := ?_) (a' := ?_) #[true, true, true, true, true, true, true, true, true, true, true, true, true, true, true, true, true, true, true, true, true, true, false, false, false, false, true, false, false] rfl rfl (take_ofW HT_.out HW_.out (by kernel_rfl)) (fun _ _ _ h => h) (Or.inl ⟨by rfl, ?_⟩) hHeld ?_ ?_
                rotate_left
                · rintro w' ⟨s0, s1, s2, s3, s4, s5, s6, s7, s8, s9, s10, s11, s12, s13, s14, s15⟩
                  go_simp
                  with_reducible rfl
                rotate_left
                · simp only [Act.put, List.setIfInBounds_toArray, List.set_cons_zero, List.set_cons_succ, i64_w, i32_w]
                  rfl
                refine take_ (i := 22) (N := some 73) (v := ?_) (a' := ?_) #[true, true, true, true, true, true, true, true, true, true, true, true, true, true, true, true, true, true, true, true, true, true, true, false, false, false, true, false, false] rfl rfl (take_ofW HT_.out HW_.out (by kernel_rfl)) (fun _ _ _ h => h) (Or.inl ⟨by rfl, ?_⟩) hHeld ?_ ?_
                rotate_left
                · rintro w' ⟨s0, s1, s2, s3, s4, s5, s6, s7, s8, s9, s10, s11, s12, s13, s14, s15⟩
                  go_simp
                  with_reducible rfl
                rotate_left
                · simp only [Act.put, List.setIfInBounds_toArray, List.set_cons_zero, List.set_cons_succ, i64_w, i32_w]
                  rfl
                refine pure_ (i := 23) (N := some 74) (v := ?_) (a' := ?_) #[true, true, true, true, true, true, true, true, true, true, true, true, true, true, true, true, true, true, true, true, true, true, true, true, false, false, true, false, false] rfl rfl (any_of HT_.out (by kernel_rfl)) (fun _ _ _ h => h) (Or.inl ⟨by rfl, ?_⟩) ?_ ?_
                rotate_left
                · intro w'
                  go_simp
                  with_reducible rfl
                rotate_left
                · simp only [Act.put, List.setIfInBounds_toArray, List.set_cons_zero, List.set_cons_succ, i64_w, i32_w]
                  rfl
                refine pure_ (i := 24) (N := some 75) (v := ?_) (a' := ?_) #[true, true, true, true, true, true, true, true, true, true, true, true, true, true, true, true, true, true, true, true, true, true, true, true, true, false, true, false, false] rfl rfl (any_of HT_.out (by kernel_rfl)) (fun _ _ _ h => h) (Or.inl ⟨by rfl, ?_⟩) ?_ ?_
                rotate_left
                · intro w'
                  go_simp
                  with_reducible rfl
                rotate_left
                · simp only [Act.put, List.setIfInBounds_toArray, List.set_cons_zero, List.set_cons_succ, i64_w, i32_w]
                  rfl
                refine pure_ (i := 25) (N := some 76) (v := ?_) (a' := ?_) #[true, true, true, true, true, true, true, true, true, true, true, true, true, true, true, true, true, true, true, true, true, true, true, true, true, true, true, false, false] rfl rfl (any_of HT_.out (by kernel_rfl)) (fun _ _ _ h => h) (Or.inl ⟨by rfl, ?_⟩) ?_ ?_
                rotate_left
                · intro w'
                  go_simp
                  with_reducible rfl
                rotate_left
                · simp only [Act.put, List.setIfInBounds_toArray, List.set_cons_zero, List.set_cons_succ, i64_w, i32_w]
                  rfl
                refine pure_ (i := 27) (N := some 4) (v := ?_) (a' := ?_) #[true, true, true, true, true, true, true, true, true, true, true, true, true, true, true, true, true, true, true, true, true, true, true, true, true, true, true, true, false] rfl rfl (any_of HT_.out (by kernel_rfl)) (fun _ _ _ h => h) (Or.inl ⟨by rfl, ?_⟩) ?_ ?_
                rotate_left
                · intro w'
                  go_simp
                  with_reducible rfl
                rotate_left
                · simp only [Act.put, List.setIfInBounds_toArray, List.set_cons_zero, List.set_cons_succ, i64_w, i32_w]
                  rfl
                refine one_ (i := 28) (N := none) #[true, true, true, true, true, true, true, true, true, true, true, true, true, true, true, true, true, true, true, true, true, true, true, true, true, true, true, true, true] rfl rfl (one_of HT_.out (by kernel_rfl)) (by decide) (fun K hK => ?_)
                have hs118 : w117.cell? ⟨gb233, 0, none⟩ = some (.int .i64 0) := (blk_cell BK233.out 0).trans rfl
                have hfs118 := blk_frozen BK233.out 0
                have hns118_0 := NB231_233.out
                have hns118_1 := NB232_233.out
                have hns118_3 := NB244_233.out
                have hns118_4 := NB245_233.out
                have hms118_0 := NB233_231.out
                have hms118_1 := NB233_232.out
                have hms118_3 := NB233_244.out
                have hms118_4 := NB233_245.out
                have hs119 : w117.cell? ⟨gb233, 1, none⟩ = some (.int .i64 0) := (blk_cell BK233.out 1).trans rfl
                have hfs119 := blk_frozen BK233.out 1
                have hns119_0 := NB231_233.out
                have hns119_1 := NB232_233.out
                have hns119_3 := NB244_233.out
                have hns119_4 := NB245_233.out
                have hms119_0 := NB233_231.out
                have hms119_1 := NB233_232.out
                have hms119_3 := NB233_244.out
                have hms119_4 := NB233_245.out
                with_reducible refine skip_ (w1 := ?w1_3) ?ha_3 ?hb_3 ?hc_3 ?hd_3
                case ha_3 => rfl
                case hb_3 => rfl
                case hc_3 =>
                  go_simp
                  rfl
                refine hK.out _ _ ⟨((cell_far (p := ⟨gb233, _, none⟩) NB231_233.out _).trans (((cell_far (p := ⟨gb233, _, none⟩) NB231_233.out _).trans (hHeld.1)))), ((cell_far (p := ⟨gb233, _, none⟩) NB231_233.out _).trans (((cell_far (p := ⟨gb233, _, none⟩) NB231_233.out _).trans (hHeld.2.1)))), ((cell_far (p := ⟨gb233, _, none⟩) NB245_233.out _).trans (((cell_far (p := ⟨gb233, _, none⟩) NB245_233.out _).trans (hHeld.2.2.1)))), ((cell_far (p := ⟨gb233, _, none⟩) NB245_233.out _).trans (((cell_far (p := ⟨gb233, _, none⟩) NB245_233.out _).trans (hHeld.2.2.2.1)))), ((cell_far (p := ⟨gb233, _, none⟩) NB244_233.out _).trans (((cell_far (p := ⟨gb233, _, none⟩) NB244_233.out _).trans (hHeld.2.2.2.2.1)))), ((cell_far (p := ⟨gb233, _, none⟩) NB244_233.out _).trans (((cell_far (p := ⟨gb233, _, none⟩) NB244_233.out _).trans (hHeld.2.2.2.2.2.1)))), ((cell_far (p := ⟨gb233, _, none⟩) NB244_233.out _).trans (((cell_far (p := ⟨gb233, _, none⟩) NB244_233.out _).trans (hHeld.2.2.2.2.2.2.1)))), ((cell_far (p := ⟨gb233, _, none⟩) NB244_233.out _).trans (((cell_far (p := ⟨gb233, _, none⟩) NB244_233.out _).trans (hHeld.2.2.2.2.2.2.2.1)))), ((cell_far (p := ⟨gb233, _, none⟩) NB244_233.out _).trans (((cell_far (p := ⟨gb233, _, none⟩) NB244_233.out _).trans (hHeld.2.2.2.2.2.2.2.2.1)))), ((cell_far (p := ⟨gb233, _, none⟩) NB244_233.out _).trans (((cell_far (p := ⟨gb233, _, none⟩) NB244_233.out _).trans (hHeld.2.2.2.2.2.2.2.2.2.1)))), ((cell_far (p := ⟨gb233, _, none⟩) NB244_233.out _).trans (((cell_far (p := ⟨gb233, _, none⟩) NB244_233.out _).trans (hHeld.2.2.2.2.2.2.2.2.2.2.1)))), ((cell_far (p := ⟨gb233, _, none⟩) NB244_233.out _).trans (((cell_far (p := ⟨gb233, _, none⟩) NB244_233.out _).trans (hHeld.2.2.2.2.2.2.2.2.2.2.2.1)))), ((cell_far (p := ⟨gb233, _, none⟩) NB232_233.out _).trans (((cell_far (p := ⟨gb233, _, none⟩) NB232_233.out _).trans (hHeld.2.2.2.2.2.2.2.2.2.2.2.2.1)))), ((cell_far (p := ⟨gb233, _, none⟩) NB232_233.out _).trans (((cell_far (p := ⟨gb233, _, none⟩) NB232_233.out _).trans (hHeld.2.2.2.2.2.2.2.2.2.2.2.2.2.1)))), ((cell_far (p := ⟨gb233, _, none⟩) NB232_233.out _).trans (((cell_far (p := ⟨gb233, _, none⟩) NB232_233.out _).trans (hHeld.2.2.2.2.2.2.2.2.2.2.2.2.2.2.1)))), ((cell_far (p := ⟨gb233, _, none⟩) NB232_233.out _).trans (((cell_far (p := ⟨gb233, _, none⟩) NB232_233.out _).trans (hHeld.2.2.2.2.2.2.2.2.2.2.2.2.2.2.2))))⟩ (fun hHeld => ?_)
                clear hK K
                refine done_ (done_of HT_.out (by kernel_rfl)) ?_
                try go_wp2
                refine bodyPost_ret (results_tc rfl _ _ gb233 28 #[.int .i64 t242, .int .i64 t243] (0, 0) _ rfl (bk_ BK233) Try.underlying28 rfl (by kernel_rfl)) rfl ?_
                exact ⟨id_, bw_ HB⟩
              · rw [if_neg c110] at H
                have c110b0 : ((Go.bits .and .i64 t237 a1_2) == 0) = false := beq_eq_false_iff_ne.mpr c110
                have c110b1 : ((Go.bits .and .i64 t237 a1_2) != 0) = true := bne_iff_ne.mpr c110
                simp only [Option.some.injEq, Prod.mk.injEq] at H
                obtain ⟨rfl, rfl, rfl⟩ := H
                have hnb120 := NB245_231.out
                have hnc120 := NB231_245.out
                have hnb121 := NB245_232.out
                have hnc121 := NB232_245.out
                have hnb122 := NB245_233.out
                have hnc122 := NB233_245.out
                have hnb123 := NB245_244.out
                have hnc123 := NB244_245.out
                obtain ⟨hcz124_0, hcz124_1, hfz124_0, hfz124_1⟩ := cz2_ BK245
                try go_wp2
                have n0_ := Aside0.mk (blk_drew BK231.out)
                have n1_ := Aside0.mk (blk_drew BK232.out)
                have n2_ := Aside0.mk (blk_drew BK233.out)
                have n3_ := Aside0.mk (blk_drew BK244.out)
                have n4_ := Aside0.mk (blk_drew BK245.out)
                have n5_ := Aside0.mk (below_drew1 HB.out)
                clear BK231
                clear BK232
                clear BK233
                clear BK244
                clear BK245
                clear HB
                have BK231 := n0_
                have BK232 := n1_
                have BK233 := n2_
                have BK244 := n3_
                have BK245 := n4_
                have HB := n5_
                clear n0_ n1_ n2_ n3_ n4_ n5_
                refine start_ (n := 29) (S := fun w' => w'.cell? ⟨gb231, 0, none⟩ = some (.int .i64 a0_0) ∧ w'.cell? ⟨gb231, 1, none⟩ = some (.slice A0_1 l0_1.length c0_1) ∧ w'.cell? ⟨gb245, 0, none⟩ = some (.int .i64 t242) ∧ w'.cell? ⟨gb245, 1, none⟩ = some (.int .i64 t243) ∧ w'.cell? ⟨gb244, 0, none⟩ = some (.int .i64 t234) ∧ w'.cell? ⟨gb244, 1, none⟩ = some (.int .i64 t235) ∧ w'.cell? ⟨gb244, 2, none⟩ = some (.int .i64 t236) ∧ w'.cell? ⟨gb244, 3, none⟩ = some (.int .i64 t237) ∧ w'.cell? ⟨gb244, 4, none⟩ = some (.int .i64 t238) ∧ w'.cell? ⟨gb244, 5, none⟩ = some (.int .i64 t239) ∧ w'.cell? ⟨gb244, 6, none⟩ = some (.bool t240) ∧ w'.cell? ⟨gb244, 7, none⟩ = some (.bool t241) ∧ w'.cell? ⟨gb232, 0, none⟩ = some (.int .i64 a1_0) ∧ w'.cell? ⟨gb232, 1, none⟩ = some (.int .i64 a1_1) ∧ w'.cell? ⟨gb232, 2, none⟩ = some (.int .i64 a1_2) ∧ w'.cell? ⟨gb232, 3, none⟩ = some (.int .i64 a1_3)) (ds := []) #[false, false, false, false, false, false, false, false, false, false, false, false, false, false, false, false, false, false, false, false, false, false, false, false, false, false, false, false, false] (by kernel_rfl) rfl rfl ⟨(blk_cell BK231.out 0).trans rfl, (blk_cell BK231.out 1).trans rfl, (blk_cell BK245.out 0).trans rfl, (blk_cell BK245.out 1).trans rfl, (blk_cell BK244.out 0).trans rfl, (blk_cell BK244.out 1).trans rfl, (blk_cell BK244.out 2).trans rfl, (blk_cell BK244.out 3).trans rfl, (blk_cell BK244.out 4).trans rfl, (blk_cell BK244.out 5).trans rfl, (blk_cell BK244.out 6).trans rfl, (blk_cell BK244.out 7).trans rfl, (blk_cell BK232.out 0).trans rfl, (blk_cell BK232.out 1).trans rfl, (blk_cell BK232.out 2).trans rfl, (blk_cell BK232.out 3).trans rfl⟩ (fun hHeld => ?_); refine with_tabW effects_Dead.tab6 effects_Dead.bits6 (fun HT_ HW_ => ?_)
                generalize wc.drew = w125 at BK231 BK232 BK233 BK244 BK245 HB hHeld ⊢
                refine take_ (i := 0) (N := some 51) (v := ?_) (a' := ?_) #[true, false, false, false, false, false, false, false, false, false, false, false, false, false, false, false, false, false, false, false, false, false, false, false, false, false, false, false, false] rfl rfl (take_ofW HT_.out HW_.out (by kernel_rfl)) (fun _ _ _ h => h) (Or.inl ⟨by rfl, ?_⟩) hHeld ?_ ?_
                rotate_left
                · rintro w' ⟨s0, s1, s2, s3, s4, s5, s6, s7, s8, s9, s10, s11, s12, s13, s14, s15⟩
                  go_simp
                  with_reducible rfl
                rotate_left
                · simp only [Act.put, List.setIfInBounds_toArray, List.set_cons_zero, List.set_cons_succ, i64_w, i32_w]
                  rfl
                refine take_ (i := 26) (N := some 77) (v := ?_) (a' := ?_) #[true, false, false, false, false, false, false, false, false, false, false, false, false, false, false, false, false, false, false, false, false, false, false, false, false, false, true, false, false] rfl rfl (take_ofW HT_.out HW_.out (by kernel_rfl)) (fun _ _ _ h => h) (Or.inl ⟨by rfl, ?_⟩) hHeld ?_ ?_
                rotate_left
                · rintro w' ⟨s0, s1, s2, s3, s4, s5, s6, s7, s8, s9, s10, s11, s12, s13, s14, s15⟩
                  go_simp
                  with_reducible rfl
                rotate_left
                · simp only [Act.put, List.setIfInBounds_toArray, List.set_cons_zero, List.set_cons_succ, i64_w, i32_w]
                  rfl
                refine one_ (i := 1) (N := some 52) #[true, true, false, false, false, false, false, false, false, false, false, false, false, false, false, false, false, false, false, false, false, false, false, false, false, false, true, false, false] rfl rfl (one_of HT_.out (by kernel_rfl)) (by decide) (fun K hK => ?_)
                refine goes_ Try.func40 (by kernel_rfl) rfl #[.agg #[.int .i64 a0_0, .slice A0_1 l0_1.length c0_1]] (by rfl) rfl rfl ar_ ?_
                with_reducible refine (effects_simple.calls kj3 a0_0 _ _ l0_1 true _ ?side1 ?side2 A107.out).mono ?_
                (case side1 => exact cb_ HR0_1 HB)
                (case side2 => exact HC0_1.out)
                rintro e w126 ⟨rfl, hb⟩
                refine ⟨_, rfl, ?_⟩
                have n0_ := Aside0.mk (blk_below (g := gb231) (o := .cells #[.int .i64 a0_0, .slice A0_1 l0_1.length c0_1] 24 (0, 0)) (bk_ BK231) hb)
                have n1_ := Aside0.mk (blk_below (g := gb232) (o := .cells #[.int .i64 a1_0, .int .i64 a1_1, .int .i64 a1_2, .int .i64 a1_3] 36 (0, 0)) (bk_ BK232) hb)
                have n2_ := Aside0.mk (blk_below (g := gb233) (o := .cells #[.int .i64 0, .int .i64 0] 28 (0, 0)) (bk_ BK233) hb)
                have n3_ := Aside0.mk (blk_below (g := gb244) (o := .cells #[.int .i64 t234, .int .i64 t235, .int .i64 t236, .int .i64 t237, .int .i64 t238, .int .i64 t239, .bool t240, .bool t241] 26 (0, 0)) (bk_ BK244) hb)
                have n4_ := Aside0.mk (blk_below (g := gb245) (o := .cells #[.int .i64 t242, .int .i64 t243] 28 (0, 0)) (bk_ BK245) hb)
                have n5_ := Aside0.mk (below_step (bw_ HB) hb)
                clear BK231
                clear BK232
                clear BK233
                clear BK244
                clear BK245
                clear HB
                have BK231 := n0_
                have BK232 := n1_
                have BK233 := n2_
                have BK244 := n3_
                have BK245 := n4_
                have HB := n5_
                clear n0_ n1_ n2_ n3_ n4_ n5_
                (try clear hb)
                (try clear hb2)
                (try clear hk)
                (try clear hi)
                refine hK.out _ _ ⟨(blk_cell BK231.out 0).trans rfl, (blk_cell BK231.out 1).trans rfl, (blk_cell BK245.out 0).trans rfl, (blk_cell BK245.out 1).trans rfl, (blk_cell BK244.out 0).trans rfl, (blk_cell BK244.out 1).trans rfl, (blk_cell BK244.out 2).trans rfl, (blk_cell BK244.out 3).trans rfl, (blk_cell BK244.out 4).trans rfl, (blk_cell BK244.out 5).trans rfl, (blk_cell BK244.out 6).trans rfl, (blk_cell BK244.out 7).trans rfl, (blk_cell BK232.out 0).trans rfl, (blk_cell BK232.out 1).trans rfl, (blk_cell BK232.out 2).trans rfl, (blk_cell BK232.out 3).trans rfl⟩ (fun hHeld => ?_)
                clear hK K
                refine norm_ (a' := ?_) ?_ ?_
                rotate_left
                · show Act.put _ (some 52) _ = _
                  simp only [Act.put, List.setIfInBounds_toArray, List.set_cons_zero, List.set_cons_succ, i64_w, i32_w]
                  rfl
                refine pure_ (i := 2) (N := some 53) (v := ?_) (a' := ?_) #[true, true, true, false, false, false, false, false, false, false, false, false, false, false, false, false, false, false, false, false, false, false, false, false, false, false, true, false, false] rfl rfl (any_of HT_.out (by kernel_rfl)) (fun _ _ _ h => h) (Or.inl ⟨by rfl, ?_⟩) ?_ ?_
                rotate_left
                · intro w'
                  go_simp
                  with_reducible rfl
                rotate_left
                · simp only [Act.put, List.setIfInBounds_toArray, List.set_cons_zero, List.set_cons_succ, i64_w, i32_w]
                  rfl
                refine pure_ (i := 3) (N := some 54) (v := ?_) (a' := ?_) #[true, true, true, true, false, false, false, false, false, false, false, false, false, false, false, false, false, false, false, false, false, false, false, false, false, false, true, false, false] rfl rfl (any_of HT_.out (by kernel_rfl)) (fun _ _ _ h => h) (Or.inl ⟨by rfl, ?_⟩) ?_ ?_
                rotate_left
                · intro w'
                  go_simp
                  with_reducible rfl
                rotate_left
                · simp only [Act.put, List.setIfInBounds_toArray, List.set_cons_zero, List.set_cons_succ, i64_w, i32_w]
                  rfl
                refine pure_ (i := 5) (N := some 56) (v := ?_) (a' := ?_) #[true, true, true, true, false, true, false, false, false, false, false, false, false, false, false, false, false, false, false, false, false, false, false, false, false, false, true, false, false] rfl rfl (any_of HT_.out (by kernel_rfl)) (fun _ _ _ h => h) (Or.inl ⟨by rfl, ?_⟩) ?_ ?_
                rotate_left
                · intro w'
                  go_simp
                  with_reducible rfl
                rotate_left
                · simp only [Act.put, List.setIfInBounds_toArray, List.set_cons_zero, List.set_cons_succ, i64_w, i32_w]
                  rfl
                refine take_ (i := 4) (N := some 55) (v := ?_) (a' := ?_) #[true, true, true, true, true, true, false, false, false, false, false, false, false, false, false, false, false, false, false, false, false, false, false, false, false, false, true, false, false] rfl rfl (take_ofW HT_.out HW_.out (by kernel_rfl)) (fun _ _ _ h => h) (Or.inl ⟨by rfl, ?_⟩) hHeld ?_ ?_
                rotate_left
                · rintro w' ⟨s0, s1, s2, s3, s4, s5, s6, s7, s8, s9, s10, s11, s12, s13, s14, s15⟩
                  go_simp
                  with_reducible rfl
                rotate_left
                · simp only [Act.put, List.setIfInBounds_toArray, List.set_cons_zero, List.set_cons_succ, i64_w, i32_w]
                  rfl
                refine take_ (i := 6) (N := some 57) (v := ?_) (a' := ?_) #[true, true, true, true, true, true, true, false, false, false, false, false, false, false, false, false, false, false, false, false, false, false, false, false, false, false, true, false, false] rfl rfl (take_ofW HT_.out HW_.out (by kernel_rfl)) (fun _ _ _ h => h) (Or.inl ⟨by rfl, ?_⟩) hHeld ?_ ?_
                rotate_left
                · rintro w' ⟨s0, s1, s2, s3, s4, s5, s6, s7, s8, s9, s10, s11, s12, s13, s14, s15⟩
                  go_simp
                  with_reducible rfl
                rotate_left
                · simp only [Act.put, List.setIfInBounds_toArray, List.set_cons_zero, List.set_cons_succ, i64_w, i32_w]
                  rfl
                refine pure_ (i := 7) (N := some 58) (v := ?_) (a' := ?_) #[true, true, true, true, true, true, true, true, false, false, false, false, false, false, false, false, false, false, false, false, false, false, false, false, false, false, true, false, false] rfl rfl (any_of HT_.out (by kernel_rfl)) (fun _ _ _ h => h) (Or.inl ⟨by rfl, ?_⟩) ?_ ?_
                rotate_left
                · intro w'
                  go_simp
                  with_reducible rfl
                rotate_left
                · simp only [Act.put, List.setIfInBounds_toArray, List.set_cons_zero, List.set_cons_succ, i64_w, i32_w]
                  rfl
                refine pure_ (i := 8) (N := some 59) (v := ?_) (a' := ?_) #[true, true, true, true, true, true, true, true, true, false, false, false, false, false, false, false, false, false, false, false, false, false, false, false, false, false, true, false, false] rfl rfl (any_of HT_.out (by kernel_rfl)) (fun _ _ _ h => h) (Or.inl ⟨by rfl, ?_⟩) ?_ ?_
                rotate_left
                · intro w'
                  go_simp
                  with_reducible rfl
                rotate_left
                · simp only [Act.put, List.setIfInBounds_toArray, List.set_cons_zero, List.set_cons_succ, i64_w, i32_w]
                  rfl
                refine pure_ (i := 9) (N := some 60) (v := ?_) (a' := ?_) #[true, true, true, true, true, true, true, true, true, true, false, false, false, false, false, false, false, false, false, false, false, false, false, false, false, false, true, false, false] rfl rfl (any_of HT_.out (by kernel_rfl)) (fun _ _ _ h => h) (Or.inl ⟨by rfl, ?_⟩) ?_ ?_
                rotate_left
                · intro w'
                  go_simp
                  with_reducible rfl
                rotate_left
                · simp only [Act.put, List.setIfInBounds_toArray, List.set_cons_zero, List.set_cons_succ, i64_w, i32_w]
                  rfl
                refine pure_ (i := 10) (N := some 61) (v := ?_) (a' := ?_) #[true, true, true, true, true, true, true, true, true, true, true, false, false, false, false, false, false, false, false, false, false, false, false, false, false, false, true, false, false] rfl rfl (any_of HT_.out (by kernel_rfl)) (fun _ _ _ h => h) (Or.inl ⟨by rfl, ?_⟩) ?_ ?_
                rotate_left
                · intro w'
                  go_simp
                  with_reducible rfl
                rotate_left
                · simp only [Act.put, List.setIfInBounds_toArray, List.set_cons_zero, List.set_cons_succ, i64_w, i32_w]
                  rfl
                refine pure_ (i := 11) (N := some 62) (v := ?_) (a' := ?_) #[true, true, true, true, true, true, true, true, true, true, true, true, false, false, false, false, false, false, false, false, false, false, false, false, false, false, true, false, false] rfl rfl (any_of HT_.out (by kernel_rfl)) (fun _ _ _ h => h) (Or.inl ⟨by rfl, ?_⟩) ?_ ?_
                rotate_left
                · intro w'
                  go_simp
                  with_reducible rfl
                rotate_left
                · simp only [Act.put, List.setIfInBounds_toArray, List.set_cons_zero, List.set_cons_succ, i64_w, i32_w]
                  rfl
                refine pure_ (i := 13) (N := some 64) (v := ?_) (a' := ?_) #[true, true, true, true, true, true, true, true, true, true, true, true, false, true, false, false, false, false, false, false, false, false, false, false, false, false, true, false, false] rfl rfl (any_of HT_.out (by kernel_rfl)) (fun _ _ _ h => h) (Or.inl ⟨by rfl, ?_⟩) ?_ ?_
                rotate_left
                · intro w'
                  go_simp
                  with_reducible rfl
                rotate_left
                · simp only [Act.put, List.setIfInBounds_toArray, List.set_cons_zero, List.set_cons_succ, i64_w, i32_w]
                  rfl
                refine take_ (i := 12) (N := some 63) (v := ?_) (a' := ?_) #[true, true, true, true, true, true, true, true, true, true, true, true, true, true, false, false, false, false, false, false, false, false, false, false, false, false, true, false, false] rfl rfl (take_ofW HT_.out HW_.out (by kernel_rfl)) (fun _ _ _ h => h) (Or.inl ⟨by rfl, ?_⟩) hHeld ?_ ?_
                rotate_left
                · rintro w' ⟨s0, s1, s2, s3, s4, s5, s6, s7, s8, s9, s10, s11, s12, s13, s14, s15⟩
                  go_simp
                  with_reducible rfl
                rotate_left
                · simp only [Act.put, List.setIfInBounds_toArray, List.set_cons_zero, List.set_cons_succ, i64_w, i32_w]
                  rfl
                refine take_ (i := 14) (N := some 65) (v := ?_) (a' := ?_) #[true, true, true, true, true, true, true, true, true, true, true, true, true, true, true, false, false, false, false, false, false, false, false, false, false, false, true, false, false] rfl rfl (take_ofW HT_.out HW_.out (by kernel_rfl)) (fun _ _ _ h => h) (Or.inl ⟨by rfl, ?_⟩) hHeld ?_ ?_
                rotate_left
                · rintro w' ⟨s0, s1, s2, s3, s4, s5, s6, s7, s8, s9, s10, s11, s12, s13, s14, s15⟩
                  go_simp
                  with_reducible rfl
                rotate_left
                · simp only [Act.put, List.setIfInBounds_toArray, List.set_cons_zero, List.set_cons_succ, i64_w, i32_w]
                  rfl
                refine pure_ (i := 15) (N := some 66) (v := ?_) (a' := ?_) #[true, true, true, true, true, true, true, true, true, true, true, true, true, true, true, true, false, false, false, false, false, false, false, false, false, false, true, false, false] rfl rfl (any_of HT_.out (by kernel_rfl)) (fun _ _ _ h => h) (Or.inl ⟨by rfl, ?_⟩) ?_ ?_
                rotate_left
                · intro w'
                  go_simp
                  with_reducible rfl
                rotate_left
                · simp only [Act.put, List.setIfInBounds_toArray, List.set_cons_zero, List.set_cons_succ, i64_w, i32_w]
                  rfl
                refine pure_ (i := 16) (N := some 67) (v := ?_) (a' := ?_) #[true, true, true, true, true, true, true, true, true, true, true, true, true, true, true, true, true, false, false, false, false, false, false, false, false, false, true, false, false] rfl rfl (any_of HT_.out (by kernel_rfl)) (fun _ _ _ h => h) (Or.inl ⟨by rfl, ?_⟩) ?_ ?_
                rotate_left
                · intro w'
                  go_simp
                  with_reducible rfl
                rotate_left
                · simp only [Act.put, List.setIfInBounds_toArray, List.set_cons_zero, List.set_cons_succ, i64_w, i32_w]
                  rfl
                refine pure_ (i := 17) (N := some 68) (v := ?_) (a' := ?_) #[true, true, true, true, true, true, true, true, true, true, true, true, true, true, true, true, true, true, false, false, false, false, false, false, false, false, true, false, false] rfl rfl (any_of HT_.out (by kernel_rfl)) (fun _ _ _ h => h) (Or.inl ⟨by rfl, ?_⟩) ?_ ?_
                rotate_left
                · intro w'
                  go_simp
                  with_reducible rfl
                rotate_left
                · simp only [Act.put, List.setIfInBounds_toArray, List.set_cons_zero, List.set_cons_succ, i64_w, i32_w]
                  rfl
                refine pure_ (i := 18) (N := some 69) (v := ?_) (a' := ?_) #[true, true, true, true, true, true, true, true, true, true, true, true, true, true, true, true, true, true, true, false, false, false, false, false, false, false, true, false, false] rfl rfl (any_of HT_.out (by kernel_rfl)) (fun _ _ _ h => h) (Or.inl ⟨by rfl, ?_⟩) ?_ ?_
                rotate_left
                · intro w'
                  go_simp
                  with_reducible rfl
                rotate_left
                · simp only [Act.put, List.setIfInBounds_toArray, List.set_cons_zero, List.set_cons_succ, i64_w, i32_w]
                  rfl
                refine pure_ (i := 19) (N := some 70) (v := undef) (a' := ?_) #[true, true, true, true, true, true, true, true, true, true, true, true, true, true, true, true, true, true, true, true, false, false, false, false, false, false, true, false, false] rfl rfl (any_of HT_.out (by kernel_rfl)) (fun _ _ _ h => h) (Or.inr ⟨by rfl, rfl⟩) ?_ ?_
                rotate_left
                · simp only [Act.put, List.setIfInBounds_toArray, List.set_cons_zero, List.set_cons_succ, i64_w, i32_w]
                  rfl
                refine pure_ (i := 20) (N := some 71) (v := undef) (a' := ?_) #[true, true, true, true, true, true, true, true, true, true, true, true, true, true, true, true, true, true, true, true, true, false, false, false, false, false, true, false, false] rfl rfl (any_of HT_.out (by kernel_rfl)) (fun _ _ _ h => h) (Or.inr ⟨by rfl, rfl⟩) ?_ ?_
                rotate_left
                · simp only [Act.put, List.setIfInBounds_toArray, List.set_cons_zero, List.set_cons_succ, i64_w, i32_w]
                  rfl
                refine pure_ (i := 21) (N := some 72) (v := undef) (a' := ?_) #[true, true, true, true, true, true, true, true, true, true, true, true, true, true, true, true, true, true, true, true, true, true, false, false, false, false, true, false, false] rfl rfl (any_of HT_.out (by kernel_rfl)) (fun _ _ _ h => h) (Or.inr ⟨by rfl, rfl⟩) ?_ ?_
                rotate_left
                · simp only [Act.put, List.setIfInBounds_toArray, List.set_cons_zero, List.set_cons_succ, i64_w, i32_w]
                  rfl
                refine pure_ (i := 22) (N := some 73) (v := undef) (a' := ?_) #[true, true, true, true, true, true, true, true, true, true, true, true, true, true, true, true, true, true, true, true, true, true, true, false, false, false, true, false, false] rfl rfl (any_of HT_.out (by kernel_rfl)) (fun _ _ _ h => h) (Or.inr ⟨by rfl, rfl⟩) ?_ ?_
                rotate_left
                · simp only [Act.put, List.setIfInBounds_toArray, List.set_cons_zero, List.set_cons_succ, i64_w, i32_w]
                  rfl
                refine pure_ (i := 23) (N := some 74) (v := undef) (a' := ?_) #[true, true, true, true, true, true, true, true, true, true, true, true, true, true, true, true, true, true, true, true, true, true, true, true, false, false, true, false, false] rfl rfl (any_of HT_.out (by kernel_rfl)) (fun _ _ _ h => h) (Or.inr ⟨by rfl, rfl⟩) ?_ ?_
                rotate_left
                · simp only [Act.put, List.setIfInBounds_toArray, List.set_cons_zero, List.set_cons_succ, i64_w, i32_w]
                  rfl
                refine pure_ (i := 24) (N := some 75) (v := undef) (a' := ?_) #[true, true, true, true, true, true, true, true, true, true, true, true, true, true, true, true, true, true, true, true, true, true, true, true, true, false, true, false, false] rfl rfl (any_of HT_.out (by kernel_rfl)) (fun _ _ _ h => h) (Or.inr ⟨by rfl, rfl⟩) ?_ ?_
                rotate_left
                · simp only [Act.put, List.setIfInBounds_toArray, List.set_cons_zero, List.set_cons_succ, i64_w, i32_w]
                  rfl
                refine pure_ (i := 25) (N := some 76) (v := ?_) (a' := ?_) #[true, true, true, true, true, true, true, true, true, true, true, true, true, true, true, true, true, true, true, true, true, true, true, true, true, true, true, false, false] rfl rfl (any_of HT_.out (by kernel_rfl)) (fun _ _ _ h => h) (Or.inl ⟨by rfl, ?_⟩) ?_ ?_
                rotate_left
                · intro w'
                  go_simp
                  with_reducible rfl
                rotate_left
                · simp only [Act.put, List.setIfInBounds_toArray, List.set_cons_zero, List.set_cons_succ, i64_w, i32_w]
                  rfl
                refine pure_ (i := 27) (N := some 4) (v := ?_) (a' := ?_) #[true, true, true, true, true, true, true, true, true, true, true, true, true, true, true, true, true, true, true, true, true, true, true, true, true, true, true, true, false] rfl rfl (any_of HT_.out (by kernel_rfl)) (fun _ _ _ h => h) (Or.inl ⟨by rfl, ?_⟩) ?_ ?_
                rotate_left
                · intro w'
                  go_simp
                  with_reducible rfl
                rotate_left
                · simp only [Act.put, List.setIfInBounds_toArray, List.set_cons_zero, List.set_cons_succ, i64_w, i32_w]
                  rfl
                refine one_ (i := 28) (N := none) #[true, true, true, true, true, true, true, true, true, true, true, true, true, true, true, true, true, true, true, true, true, true, true, true, true, true, true, true, true] rfl rfl (one_of HT_.out (by kernel_rfl)) (by decide) (fun K hK => ?_)
                have hs127 : w126.cell? ⟨gb233, 0, none⟩ = some (.int .i64 0) := (blk_cell BK233.out 0).trans rfl
                have hfs127 := blk_frozen BK233.out 0
                have hns127_0 := NB231_233.out
                have hns127_1 := NB232_233.out
                have hns127_3 := NB244_233.out
                have hns127_4 := NB245_233.out
                have hms127_0 := NB233_231.out
                have hms127_1 := NB233_232.out
                have hms127_3 := NB233_244.out
                have hms127_4 := NB233_245.out
                have hs128 : w126.cell? ⟨gb233, 1, none⟩ = some (.int .i64 0) := (blk_cell BK233.out 1).trans rfl
                have hfs128 := blk_frozen BK233.out 1
                have hns128_0 := NB231_233.out
                have hns128_1 := NB232_233.out
                have hns128_3 := NB244_233.out
                have hns128_4 := NB245_233.out
                have hms128_0 := NB233_231.out
                have hms128_1 := NB233_232.out
                have hms128_3 := NB233_244.out
                have hms128_4 := NB233_245.out
                with_reducible refine skip_ (w1 := ?w1_4) ?ha_4 ?hb_4 ?hc_4 ?hd_4
                case ha_4 => rfl
                case hb_4 => rfl
                case hc_4 =>
                  go_simp
                  rfl
                refine hK.out _ _ ⟨((cell_far (p := ⟨gb233, _, none⟩) NB231_233.out _).trans (((cell_far (p := ⟨gb233, _, none⟩) NB231_233.out _).trans (hHeld.1)))), ((cell_far (p := ⟨gb233, _, none⟩) NB231_233.out _).trans (((cell_far (p := ⟨gb233, _, none⟩) NB231_233.out _).trans (hHeld.2.1)))), ((cell_far (p := ⟨gb233, _, none⟩) NB245_233.out _).trans (((cell_far (p := ⟨gb233, _, none⟩) NB245_233.out _).trans (hHeld.2.2.1)))), ((cell_far (p := ⟨gb233, _, none⟩) NB245_233.out _).trans (((cell_far (p := ⟨gb233, _, none⟩) NB245_233.out _).trans (hHeld.2.2.2.1)))), ((cell_far (p := ⟨gb233, _, none⟩) NB244_233.out _).trans (((cell_far (p := ⟨gb233, _, none⟩) NB244_233.out _).trans (hHeld.2.2.2.2.1)))), ((cell_far (p := ⟨gb233, _, none⟩) NB244_233.out _).trans (((cell_far (p := ⟨gb233, _, none⟩) NB244_233.out _).trans (hHeld.2.2.2.2.2.1)))), ((cell_far (p := ⟨gb233, _, none⟩) NB244_233.out _).trans (((cell_far (p := ⟨gb233, _, none⟩) NB244_233.out _).trans (hHeld.2.2.2.2.2.2.1)))), ((cell_far (p := ⟨gb233, _, none⟩) NB244_233.out _).trans (((cell_far (p := ⟨gb233, _, none⟩) NB244_233.out _).trans (hHeld.2.2.2.2.2.2.2.1)))), ((cell_far (p := ⟨gb233, _, none⟩) NB244_233.out _).trans (((cell_far (p := ⟨gb233, _, none⟩) NB244_233.out _).trans (hHeld.2.2.2.2.2.2.2.2.1)))), ((cell_far (p := ⟨gb233, _, none⟩) NB244_233.out _).trans (((cell_far (p := ⟨gb233, _, none⟩) NB244_233.out _).trans (hHeld.2.2.2.2.2.2.2.2.2.1)))), ((cell_far (p := ⟨gb233, _, none⟩) NB244_233.out _).trans (((cell_far (p := ⟨gb233, _, none⟩) NB244_233.out _).trans (hHeld.2.2.2.2.2.2.2.2.2.2.1)))), ((cell_far (p := ⟨gb233, _, none⟩) NB244_233.out _).trans (((cell_far (p := ⟨gb233, _, none⟩) NB244_233.out _).trans (hHeld.2.2.2.2.2.2.2.2.2.2.2.1)))), ((cell_far (p := ⟨gb233, _, none⟩) NB232_233.out _).trans (((cell_far (p := ⟨gb233, _, none⟩) NB232_233.out _).trans (hHeld.2.2.2.2.2.2.2.2.2.2.2.2.1)))), ((cell_far (p := ⟨gb233, _, none⟩) NB232_233.out _).trans (((cell_far (p := ⟨gb233, _, none⟩) NB232_233.out _).trans (hHeld.2.2.2.2.2.2.2.2.2.2.2.2.2.1)))), ((cell_far (p := ⟨gb233, _, none⟩) NB232_233.out _).trans (((cell_far (p := ⟨gb233, _, none⟩) NB232_233.out _).trans (hHeld.2.2.2.2.2.2.2.2.2.2.2.2.2.2.1)))), ((cell_far (p := ⟨gb233, _, none⟩) NB232_233.out _).trans (((cell_far (p := ⟨gb233, _, none⟩) NB232_233.out _).trans (hHeld.2.2.2.2.2.2.2.2.2.2.2.2.2.2.2))))⟩ (fun hHeld => ?_)
                clear hK K
                refine done_ (done_of HT_.out (by kernel_rfl)) ?_
                try go_wp2
                refine bodyPost_ret (results_tc rfl _ _ gb233 28 #[.int .i64 t242, .int .i64 t243] (0, 0) _ rfl (bk_ BK233) Try.underlying28 rfl (by kernel_rfl)) rfl ?_
                exact ⟨id_, bw_ HB⟩
            · rw [if_neg c109] at H
              have c109b0 : ((Go.bits .and .i64 t235 a1_1) == 0) = false := beq_eq_false_iff_ne.mpr c109
              have c109b1 : ((Go.bits .and .i64 t235 a1_1) != 0) = true := bne_iff_ne.mpr c109
              simp only [Option.some.injEq, Prod.mk.injEq] at H
              obtain ⟨rfl, rfl, rfl⟩ := H
              have hnb129 := NB245_231.out
              have hnc129 := NB231_245.out
              have hnb130 := NB245_232.out
              have hnc130 := NB232_245.out
              have hnb131 := NB245_233.out
              have hnc131 := NB233_245.out
              have hnb132 := NB245_244.out
              have hnc132 := NB244_245.out
              obtain ⟨hcz133_0, hcz133_1, hfz133_0, hfz133_1⟩ := cz2_ BK245
              try go_wp2
              have n0_ := Aside0.mk (blk_drew BK231.out)
              have n1_ := Aside0.mk (blk_drew BK232.out)
              have n2_ := Aside0.mk (blk_drew BK233.out)
              have n3_ := Aside0.mk (blk_drew BK244.out)
              have n4_ := Aside0.mk (blk_drew BK245.out)
              have n5_ := Aside0.mk (below_drew1 HB.out)
              clear BK231
              clear BK232
              clear BK233
              clear BK244
              clear BK245
              clear HB
              have BK231 := n0_
              have BK232 := n1_
              have BK233 := n2_
              have BK244 := n3_
              have BK245 := n4_
              have HB := n5_
              clear n0_ n1_ n2_ n3_ n4_ n5_
              refine start_ (n := 29) (S := fun w' => w'.cell? ⟨gb231, 0, none⟩ = some (.int .i64 a0_0) ∧ w'.cell? ⟨gb231, 1, none⟩ = some (.slice A0_1 l0_1.length c0_1) ∧ w'.cell? ⟨gb245, 0, none⟩ = some (.int .i64 t242) ∧ w'.cell? ⟨gb245, 1, none⟩ = some (.int .i64 t243) ∧ w'.cell? ⟨gb244, 0, none⟩ = some (.int .i64 t234) ∧ w'.cell? ⟨gb244, 1, none⟩ = some (.int .i64 t235) ∧ w'.cell? ⟨gb244, 2, none⟩ = some (.int .i64 t236) ∧ w'.cell? ⟨gb244, 3, none⟩ = some (.int .i64 t237) ∧ w'.cell? ⟨gb244, 4, none⟩ = some (.int .i64 t238) ∧ w'.cell? ⟨gb244, 5, none⟩ = some (.int .i64 t239) ∧ w'.cell? ⟨gb244, 6, none⟩ = some (.bool t240) ∧ w'.cell? ⟨gb244, 7, none⟩ = some (.bool t241) ∧ w'.cell? ⟨gb232, 0, none⟩ = some (.int .i64 a1_0) ∧ w'.cell? ⟨gb232, 1, none⟩ = some (.int .i64 a1_1) ∧ w'.cell? ⟨gb232, 2, none⟩ = some (.int .i64 a1_2) ∧ w'.cell? ⟨gb232, 3, none⟩ = some (.int .i64 a1_3)) (ds := []) #[false, false, false, false, false, false, false, false, false, false, false, false, false, false, false, false, false, false, false, false, false, false, false, false, false, false, false, false, false] (by kernel_rfl) rfl rfl ⟨(blk_cell BK231.out 0).trans rfl, (blk_cell BK231.out 1).trans rfl, (blk_cell BK245.out 0).trans rfl, (blk_cell BK245.out 1).trans rfl, (blk_cell BK244.out 0).trans rfl, (blk_cell BK244.out 1).trans rfl, (blk_cell BK244.out 2).trans rfl, (blk_cell BK244.out 3).trans rfl, (blk_cell BK244.out 4).trans rfl, (blk_cell BK244.out 5).trans rfl, (blk_cell BK244.out 6).trans rfl, (blk_cell BK244.out 7).trans rfl, (blk_cell BK232.out 0).trans rfl, (blk_cell BK232.out 1).trans rfl, (blk_cell BK232.out 2).trans rfl, (blk_cell BK232.out 3).trans rfl⟩ (fun hHeld => ?_); refine with_tabW effects_Dead.tab6 effects_Dead.bits6 (fun HT_ HW_ => ?_)
              generalize wc.drew = w134 at BK231 BK232 BK233 BK244 BK245 HB hHeld ⊢
              refine take_ (i := 0) (N := some 51) (v := ?_) (a' := ?_) #[true, false, false, false, false, false, false, false, false, false, false, false, false, false, false, false, false, false, false, false, false, false, false, false, false, false, false, false, false] rfl rfl (take_ofW HT_.out HW_.out (by kernel_rfl)) (fun _ _ _ h => h) (Or.inl ⟨by rfl, ?_⟩) hHeld ?_ ?_
              rotate_left
              · rintro w' ⟨s0, s1, s2, s3, s4, s5, s6, s7, s8, s9, s10, s11, s12, s13, s14, s15⟩
                go_simp
                with_reducible rfl
              rotate_left
              · simp only [Act.put, List.setIfInBounds_toArray, List.set_cons_zero, List.set_cons_succ, i64_w, i32_w]
                rfl
              refine take_ (i := 26) (N := some 77) (v := ?_) (a' := ?_) #[true, false, false, false, false, false, false, false, false, false, false, false, false, false, false, false, false, false, false, false, false, false, false, false, false, false, true, false, false] rfl rfl (take_ofW HT_.out HW_.out (by kernel_rfl)) (fun _ _ _ h => h) (Or.inl ⟨by rfl, ?_⟩) hHeld ?_ ?_
              rotate_left
              · rintro w' ⟨s0, s1, s2, s3, s4, s5, s6, s7, s8, s9, s10, s11, s12, s13, s14, s15⟩
                go_simp
                with_reducible rfl
              rotate_left
              · simp only [Act.put, List.setIfInBounds_toArray, List.set_cons_zero, List.set_cons_succ, i64_w, i32_w]
                rfl
              refine one_ (i := 1) (N := some 52) #[true, true, false, false, false, false, false, false, false, false, false, false, false, false, false, false, false, false, false, false, false, false, false, false, false, false, true, false, false] rfl rfl (one_of HT_.out (by kernel_rfl)) (by decide) (fun K hK => ?_)
              refine goes_ Try.func40 (by kernel_rfl) rfl #[.agg #[.int .i64 a0_0, .slice A0_1 l0_1.length c0_1]] (by rfl) rfl rfl ar_ ?_
              with_reducible refine (effects_simple.calls kj3 a0_0 _ _ l0_1 true _ ?side1 ?side2 A107.out).mono ?_
              (case side1 => exact cb_ HR0_1 HB)
              (case side2 => exact HC0_1.out)
              rintro e w135 ⟨rfl, hb⟩
              refine ⟨_, rfl, ?_⟩
              have n0_ := Aside0.mk (blk_below (g := gb231) (o := .cells #[.int .i64 a0_0, .slice A0_1 l0_1.length c0_1] 24 (0, 0)) (bk_ BK231) hb)
              have n1_ := Aside0.mk (blk_below (g := gb232) (o := .cells #[.int .i64 a1_0, .int .i64 a1_1, .int .i64 a1_2, .int .i64 a1_3] 36 (0, 0)) (bk_ BK232) hb)
              have n2_ := Aside0.mk (blk_below (g := gb233) (o := .cells #[.int .i64 0, .int .i64 0] 28 (0, 0)) (bk_ BK233) hb)
              have n3_ := Aside0.mk (blk_below (g := gb244) (o := .cells #[.int .i64 t234, .int .i64 t235, .int .i64 t236, .int .i64 t237, .int .i64 t238, .int .i64 t239, .bool t240, .bool t241] 26 (0, 0)) (bk_ BK244) hb)
              have n4_ := Aside0.mk (blk_below (g := gb245) (o := .cells #[.int .i64 t242, .int .i64 t243] 28 (0, 0)) (bk_ BK245) hb)
              have n5_ := Aside0.mk (below_step (bw_ HB) hb)
              clear BK231
              clear BK232
              clear BK233
              clear BK244
              clear BK245
              clear HB
              have BK231 := n0_
              have BK232 := n1_
              have BK233 := n2_
              have BK244 := n3_
              have BK245 := n4_
              have HB := n5_
              clear n0_ n1_ n2_ n3_ n4_ n5_
              (try clear hb)
              (try clear hb2)
              (try clear hk)
              (try clear hi)
              refine hK.out _ _ ⟨(blk_cell BK231.out 0).trans rfl, (blk_cell BK231.out 1).trans rfl, (blk_cell BK245.out 0).trans rfl, (blk_cell BK245.out 1).trans rfl, (blk_cell BK244.out 0).trans rfl, (blk_cell BK244.out 1).trans rfl, (blk_cell BK244.out 2).trans rfl, (blk_cell BK244.out 3).trans rfl, (blk_cell BK244.out 4).trans rfl, (blk_cell BK244.out 5).trans rfl, (blk_cell BK244.out 6).trans rfl, (blk_cell BK244.out 7).trans rfl, (blk_cell BK232.out 0).trans rfl, (blk_cell BK232.out 1).trans rfl, (blk_cell BK232.out 2).trans rfl, (blk_cell BK232.out 3).trans rfl⟩ (fun hHeld => ?_)
              clear hK K
              refine norm_ (a' := ?_) ?_ ?_
              rotate_left
              · show Act.put _ (some 52) _ = _
                simp only [Act.put, List.setIfInBounds_toArray, List.set_cons_zero, List.set_cons_succ, i64_w, i32_w]
                rfl
              refine pure_ (i := 2) (N := some 53) (v := ?_) (a' := ?_) #[true, true, true, false, false, false, false, false, false, false, false, false, false, false, false, false, false, false, false, false, false, false, false, false, false, false, true, false, false] rfl rfl (any_of HT_.out (by kernel_rfl)) (fun _ _ _ h => h) (Or.inl ⟨by rfl, ?_⟩) ?_ ?_
              rotate_left
              · intro w'
                go_simp
                with_reducible rfl
              rotate_left
              · simp only [Act.put, List.setIfInBounds_toArray, List.set_cons_zero, List.set_cons_succ, i64_w, i32_w]
                rfl
              refine pure_ (i := 3) (N := some 54) (v := ?_) (a' := ?_) #[true, true, true, true, false, false, false, false, false, false, false, false, false, false, false, false, false, false, false, false, false, false, false, false, false, false, true, false, false] rfl rfl (any_of HT_.out (by kernel_rfl)) (fun _ _ _ h => h) (Or.inl ⟨by rfl, ?_⟩) ?_ ?_
              rotate_left
              · intro w'
                go_simp
                with_reducible rfl
              rotate_left
              · simp only [Act.put, List.setIfInBounds_toArray, List.set_cons_zero, List.set_cons_succ, i64_w, i32_w]
                rfl
              refine pure_ (i := 5) (N := some 56) (v := ?_) (a' := ?_) #[true, true, true, true, false, true, false, false, false, false, false, false, false, false, false, false, false, false, false, false, false, false, false, false, false, false, true, false, false] rfl rfl (any_of HT_.out (by kernel_rfl)) (fun _ _ _ h => h) (Or.inl ⟨by rfl, ?_⟩) ?_ ?_
              rotate_left
              · intro w'
                go_simp
                with_reducible rfl
              rotate_left
              · simp only [Act.put, List.setIfInBounds_toArray, List.set_cons_zero, List.set_cons_succ, i64_w, i32_w]
                rfl
              refine take_ (i := 4) (N := some 55) (v := ?_) (a' := ?_) #[true, true, true, true, true, true, false, false, false, false, false, false, false, false, false, false, false, false, false, false, false, false, false, false, false, false, true, false, false] rfl rfl (take_ofW HT_.out HW_.out (by kernel_rfl)) (fun _ _ _ h => h) (Or.inl ⟨by rfl, ?_⟩) hHeld ?_ ?_
              rotate_left
              · rintro w' ⟨s0, s1, s2, s3, s4, s5, s6, s7, s8, s9, s10, s11, s12, s13, s14, s15⟩
                go_simp
                with_reducible rfl
              rotate_left
              · simp only [Act.put, List.setIfInBounds_toArray, List.set_cons_zero, List.set_cons_succ, i64_w, i32_w]
                rfl
              refine take_ (i := 6) (N := some 57) (v := ?_) (a' := ?_) #[true, true, true, true, true, true, true, false, false, false, false, false, false, false, false, false, false, false, false, false, false, false, false, false, false, false, true, false, false] rfl rfl (take_ofW HT_.out HW_.out (by kernel_rfl)) (fun _ _ _ h => h) (Or.inl ⟨by rfl, ?_⟩) hHeld ?_ ?_
              rotate_left
              · rintro w' ⟨s0, s1, s2, s3, s4, s5, s6, s7, s8, s9, s10, s11, s12, s13, s14, s15⟩
                go_simp
                with_reducible rfl
              rotate_left
              · simp only [Act.put, List.setIfInBounds_toArray, List.set_cons_zero, List.set_cons_succ, i64_w, i32_w]
                rfl
              refine pure_ (i := 7) (N := some 58) (v := ?_) (a' := ?_) #[true, true, true, true, true, true, true, true, false, false, false, false, false, false, false, false, false, false, false, false, false, false, false, false, false, false, true, false, false] rfl rfl (any_of HT_.out (by kernel_rfl)) (fun _ _ _ h => h) (Or.inl ⟨by rfl, ?_⟩) ?_ ?_
              rotate_left
              · intro w'
                go_simp
                with_reducible rfl
              rotate_left
              · simp only [Act.put, List.setIfInBounds_toArray, List.set_cons_zero, List.set_cons_succ, i64_w, i32_w]
                rfl
              refine pure_ (i := 8) (N := some 59) (v := ?_) (a' := ?_) #[true, true, true, true, true, true, true, true, true, false, false, false, false, false, false, false, false, false, false, false, false, false, false, false, false, false, true, false, false] rfl rfl (any_of HT_.out (by kernel_rfl)) (fun _ _ _ h => h) (Or.inl ⟨by rfl, ?_⟩) ?_ ?_
              rotate_left
              · intro w'
                go_simp
                with_reducible rfl
              rotate_left
              · simp only [Act.put, List.setIfInBounds_toArray, List.set_cons_zero, List.set_cons_succ, i64_w, i32_w]
                rfl
              refine pure_ (i := 9) (N := some 60) (v := ?_) (a' := ?_) #[true, true, true, true, true, true, true, true, true, true, false, false, false, false, false, false, false, false, false, false, false, false, false, false, false, false, true, false, false] rfl rfl (any_of HT_.out (by kernel_rfl)) (fun _ _ _ h => h) (Or.inl ⟨by rfl, ?_⟩) ?_ ?_
              rotate_left
              · intro w'
                go_simp
                with_reducible rfl
              rotate_left
              · simp only [Act.put, List.setIfInBounds_toArray, List.set_cons_zero, List.set_cons_succ, i64_w, i32_w]
                rfl
              refine pure_ (i := 10) (N := some 61) (v := ?_) (a' := ?_) #[true, true, true, true, true, true, true, true, true, true, true, false, false, false, false, false, false, false, false, false, false, false, false, false, false, false, true, false, false] rfl rfl (any_of HT_.out (by kernel_rfl)) (fun _ _ _ h => h) (Or.inl ⟨by rfl, ?_⟩) ?_ ?_
              rotate_left
              · intro w'
                go_simp
                with_reducible rfl
              rotate_left
              · simp only [Act.put, List.setIfInBounds_toArray, List.set_cons_zero, List.set_cons_succ, i64_w, i32_w]
                rfl
              refine pure_ (i := 11) (N := some 62) (v := undef) (a' := ?_) #[true, true, true, true, true, true, true, true, true, true, true, true, false, false, false, false, false, false, false, false, false, false, false, false, false, false, true, false, false] rfl rfl (any_of HT_.out (by kernel_rfl)) (fun _ _ _ h => h) (Or.inr ⟨by rfl, rfl⟩) ?_ ?_
              rotate_left
              · simp only [Act.put, List.setIfInBounds_toArray, List.set_cons_zero, List.set_cons_succ, i64_w, i32_w]
                rfl
              refine pure_ (i := 12) (N := some 63) (v := undef) (a' := ?_) #[true, true, true, true, true, true, true, true, true, true, true, true, true, false, false, false, false, false, false, false, false, false, false, false, false, false, true, false, false] rfl rfl (any_of HT_.out (by kernel_rfl)) (fun _ _ _ h => h) (Or.inr ⟨by rfl, rfl⟩) ?_ ?_
              rotate_left
              · simp only [Act.put, List.setIfInBounds_toArray, List.set_cons_zero, List.set_cons_succ, i64_w, i32_w]
                rfl
              refine pure_ (i := 13) (N := some 64) (v := undef) (a' := ?_) #[true, true, true, true, true, true, true, true, true, true, true, true, true, true, false, false, false, false, false, false, false, false, false, false, false, false, true, false, false] rfl rfl (any_of HT_.out (by kernel_rfl)) (fun _ _ _ h => h) (Or.inr ⟨by rfl, rfl⟩) ?_ ?_
              rotate_left
              · simp only [Act.put, List.setIfInBounds_toArray, List.set_cons_zero, List.set_cons_succ, i64_w, i32_w]
                rfl
              refine pure_ (i := 14) (N := some 65) (v := undef) (a' := ?_) #[true, true, true, true, true, true, true, true, true, true, true, true, true, true, true, false, false, false, false, false, false, false, false, false, false, false, true, false, false] rfl rfl (any_of HT_.out (by kernel_rfl)) (fun _ _ _ h => h) (Or.inr ⟨by rfl, rfl⟩) ?_ ?_
              rotate_left
              · simp only [Act.put, List.setIfInBounds_toArray, List.set_cons_zero, List.set_cons_succ, i64_w, i32_w]
                rfl
              refine pure_ (i := 15) (N := some 66) (v := undef) (a' := ?_) #[true, true, true, true, true, true, true, true, true, true, true, true, true, true, true, true, false, false, false, false, false, false, false, false, false, false, true, false, false] rfl rfl (any_of HT_.out (by kernel_rfl)) (fun _ _ _ h => h) (Or.inr ⟨by rfl, rfl⟩) ?_ ?_
              rotate_left
              · simp only [Act.put, List.setIfInBounds_toArray, List.set_cons_zero, List.set_cons_succ, i64_w, i32_w]
                rfl
              refine pure_ (i := 16) (N := some 67) (v := undef) (a' := ?_) #[true, true, true, true, true, true, true, true, true, true, true, true, true, true, true, true, true, false, false, false, false, false, false, false, false, false, true, false, false] rfl rfl (any_of HT_.out (by kernel_rfl)) (fun _ _ _ h => h) (Or.inr ⟨by rfl, rfl⟩) ?_ ?_
              rotate_left
              · simp only [Act.put, List.setIfInBounds_toArray, List.set_cons_zero, List.set_cons_succ, i64_w, i32_w]
                rfl
              refine pure_ (i := 17) (N := some 68) (v := ?_) (a' := ?_) #[true, true, true, true, true, true, true, true, true, true, true, true, true, true, true, true, true, true, false, false, false, false, false, false, false, false, true, false, false] rfl rfl (any_of HT_.out (by kernel_rfl)) (fun _ _ _ h => h) (Or.inl ⟨by rfl, ?_⟩) ?_ ?_
              rotate_left
              · intro w'
                go_simp
                with_reducible rfl
              rotate_left
              · simp only [Act.put, List.setIfInBounds_toArray, List.set_cons_zero, List.set_cons_succ, i64_w, i32_w]
                rfl
              refine pure_ (i := 18) (N := some 69) (v := ?_) (a' := ?_) #[true, true, true, true, true, true, true, true, true, true, true, true, true, true, true, true, true, true, true, false, false, false, false, false, false, false, true, false, false] rfl rfl (any_of HT_.out (by kernel_rfl)) (fun _ _ _ h => h) (Or.inl ⟨by rfl, ?_⟩) ?_ ?_
              rotate_left
              · intro w'
                go_simp
                with_reducible rfl
              rotate_left
              · simp only [Act.put, List.setIfInBounds_toArray, List.set_cons_zero, List.set_cons_succ, i64_w, i32_w]
                rfl
              refine pure_ (i := 19) (N := some 70) (v := undef) (a' := ?_) #[true, true, true, true, true, true, true, true, true, true, true, true, true, true, true, true, true, true, true, true, false, false, false, false, false, false, true, false, false] rfl rfl (any_of HT_.out (by kernel_rfl)) (fun _ _ _ h => h) (Or.inr ⟨by rfl, rfl⟩) ?_ ?_
              rotate_left
              · simp only [Act.put, List.setIfInBounds_toArray, List.set_cons_zero, List.set_cons_succ, i64_w, i32_w]
                rfl
              refine pure_ (i := 20) (N := some 71) (v := undef) (a' := ?_) #[true, true, true, true, true, true, true, true, true, true, true, true, true, true, true, true, true, true, true, true, true, false, false, false, false, false, true, false, false] rfl rfl (any_of HT_.out (by kernel_rfl)) (fun _ _ _ h => h) (Or.inr ⟨by rfl, rfl⟩) ?_ ?_
              rotate_left
              · simp only [Act.put, List.setIfInBounds_toArray, List.set_cons_zero, List.set_cons_succ, i64_w, i32_w]
                rfl
              refine pure_ (i := 21) (N := some 72) (v := undef) (a' := ?_) #[true, true, true, true, true, true, true, true, true, true, true, true, true, true, true, true, true, true, true, true, true, true, false, false, false, false, true, false, false] rfl rfl (any_of HT_.out (by kernel_rfl)) (fun _ _ _ h => h) (Or.inr ⟨by rfl, rfl⟩) ?_ ?_
              rotate_left
              · simp only [Act.put, List.setIfInBounds_toArray, List.set_cons_zero, List.set_cons_succ, i64_w, i32_w]
                rfl
              refine pure_ (i := 22) (N := some 73) (v := undef) (a' := ?_) #[true, true, true, true, true, true, true, true, true, true, true, true, true, true, true, true, true, true, true, true, true, true, true, false, false, false, true, false, false] rfl rfl (any_of HT_.out (by kernel_rfl)) (fun _ _ _ h => h) (Or.inr ⟨by rfl, rfl⟩) ?_ ?_
              rotate_left
              · simp only [Act.put, List.setIfInBounds_toArray, List.set_cons_zero, List.set_cons_succ, i64_w, i32_w]
                rfl
              refine pure_ (i := 23) (N := some 74) (v := undef) (a' := ?_) #[true, true, true, true, true, true, true, true, true, true, true, true, true, true, true, true, true, true, true, true, true, true, true, true, false, false, true, false, false] rfl rfl (any_of HT_.out (by kernel_rfl)) (fun _ _ _ h => h) (Or.inr ⟨by rfl, rfl⟩) ?_ ?_
              rotate_left
              · simp only [Act.put, List.setIfInBounds_toArray, List.set_cons_zero, List.set_cons_succ, i64_w, i32_w]
                rfl
              refine pure_ (i := 24) (N := some 75) (v := undef) (a' := ?_) #[true, true, true, true, true, true, true, true, true, true, true, true, true, true, true, true, true, true, true, true, true, true, true, true, true, false, true, false, false] rfl rfl (any_of HT_.out (by kernel_rfl)) (fun _ _ _ h => h) (Or.inr ⟨by rfl, rfl⟩) ?_ ?_
              rotate_left
              · simp only [Act.put, List.setIfInBounds_toArray, List.set_cons_zero, List.set_cons_succ, i64_w, i32_w]
                rfl
              refine pure_ (i := 25) (N := some 76) (v := ?_) (a' := ?_) #[true, true, true, true, true, true, true, true, true, true, true, true, true, true, true, true, true, true, true, true, true, true, true, true, true, true, true, false, false] rfl rfl (any_of HT_.out (by kernel_rfl)) (fun _ _ _ h => h) (Or.inl ⟨by rfl, ?_⟩) ?_ ?_
              rotate_left
              · intro w'
                go_simp
                with_reducible rfl
              rotate_left
              · simp only [Act.put, List.setIfInBounds_toArray, List.set_cons_zero, List.set_cons_succ, i64_w, i32_w]
                rfl
              refine pure_ (i := 27) (N := some 4) (v := ?_) (a' := ?_) #[true, true, true, true, true, true, true, true, true, true, true, true, true, true, true, true, true, true, true, true, true, true, true, true, true, true, true, true, false] rfl rfl (any_of HT_.out (by kernel_rfl)) (fun _ _ _ h => h) (Or.inl ⟨by rfl, ?_⟩) ?_ ?_
              rotate_left
              · intro w'
                go_simp
                with_reducible rfl
              rotate_left
              · simp only [Act.put, List.setIfInBounds_toArray, List.set_cons_zero, List.set_cons_succ, i64_w, i32_w]
                rfl
              refine one_ (i := 28) (N := none) #[true, true, true, true, true, true, true, true, true, true, true, true, true, true, true, true, true, true, true, true, true, true, true, true, true, true, true, true, true] rfl rfl (one_of HT_.out (by kernel_rfl)) (by decide) (fun K hK => ?_)
              have hs136 : w135.cell? ⟨gb233, 0, none⟩ = some (.int .i64 0) := (blk_cell BK233.out 0).trans rfl
              have hfs136 := blk_frozen BK233.out 0
              have hns136_0 := NB231_233.out
              have hns136_1 := NB232_233.out
              have hns136_3 := NB244_233.out
              have hns136_4 := NB245_233.out
              have hms136_0 := NB233_231.out
              have hms136_1 := NB233_232.out
              have hms136_3 := NB233_244.out
              have hms136_4 := NB233_245.out
              have hs137 : w135.cell? ⟨gb233, 1, none⟩ = some (.int .i64 0) := (blk_cell BK233.out 1).trans rfl
              have hfs137 := blk_frozen BK233.out 1
              have hns137_0 := NB231_233.out
              have hns137_1 := NB232_233.out
              have hns137_3 := NB244_233.out
              have hns137_4 := NB245_233.out
              have hms137_0 := NB233_231.out
              have hms137_1 := NB233_232.out
              have hms137_3 := NB233_244.out
              have hms137_4 := NB233_245.out
              with_reducible refine skip_ (w1 := ?w1_5) ?ha_5 ?hb_5 ?hc_5 ?hd_5
              case ha_5 => rfl
              case hb_5 => rfl
              case hc_5 =>
                go_simp
                rfl
              refine hK.out _ _ ⟨((cell_far (p := ⟨gb233, _, none⟩) NB231_233.out _).trans (((cell_far (p := ⟨gb233, _, none⟩) NB231_233.out _).trans (hHeld.1)))), ((cell_far (p := ⟨gb233, _, none⟩) NB231_233.out _).trans (((cell_far (p := ⟨gb233, _, none⟩) NB231_233.out _).trans (hHeld.2.1)))), ((cell_far (p := ⟨gb233, _, none⟩) NB245_233.out _).trans (((cell_far (p := ⟨gb233, _, none⟩) NB245_233.out _).trans (hHeld.2.2.1)))), ((cell_far (p := ⟨gb233, _, none⟩) NB245_233.out _).trans (((cell_far (p := ⟨gb233, _, none⟩) NB245_233.out _).trans (hHeld.2.2.2.1)))), ((cell_far (p := ⟨gb233, _, none⟩) NB244_233.out _).trans (((cell_far (p := ⟨gb233, _, none⟩) NB244_233.out _).trans (hHeld.2.2.2.2.1)))), ((cell_far (p := ⟨gb233, _, none⟩) NB244_233.out _).trans (((cell_far (p := ⟨gb233, _, none⟩) NB244_233.out _).trans (hHeld.2.2.2.2.2.1)))), ((cell_far (p := ⟨gb233, _, none⟩) NB244_233.out _).trans (((cell_far (p := ⟨gb233, _, none⟩) NB244_233.out _).trans (hHeld.2.2.2.2.2.2.1)))), ((cell_far (p := ⟨gb233, _, none⟩) NB244_233.out _).trans (((cell_far (p := ⟨gb233, _, none⟩) NB244_233.out _).trans (hHeld.2.2.2.2.2.2.2.1)))), ((cell_far (p := ⟨gb233, _, none⟩) NB244_233.out _).trans (((cell_far (p := ⟨gb233, _, none⟩) NB244_233.out _).trans (hHeld.2.2.2.2.2.2.2.2.1)))), ((cell_far (p := ⟨gb233, _, none⟩) NB244_233.out _).trans (((cell_far (p := ⟨gb233, _, none⟩) NB244_233.out _).trans (hHeld.2.2.2.2.2.2.2.2.2.1)))), ((cell_far (p := ⟨gb233, _, none⟩) NB244_233.out _).trans (((cell_far (p := ⟨gb233, _, none⟩) NB244_233.out _).trans (hHeld.2.2.2.2.2.2.2.2.2.2.1)))), ((cell_far (p := ⟨gb233, _, none⟩) NB244_233.out _).trans (((cell_far (p := ⟨gb233, _, none⟩) NB244_233.out _).trans (hHeld.2.2.2.2.2.2.2.2.2.2.2.1)))), ((cell_far (p := ⟨gb233, _, none⟩) NB232_233.out _).trans (((cell_far (p := ⟨gb233, _, none⟩) NB232_233.out _).trans (hHeld.2.2.2.2.2.2.2.2.2.2.2.2.1)))), ((cell_far (p := ⟨gb233, _, none⟩) NB232_233.out _).trans (((cell_far (p := ⟨gb233, _, none⟩) NB232_233.out _).trans (hHeld.2.2.2.2.2.2.2.2.2.2.2.2.2.1)))), ((cell_far (p := ⟨gb233, _, none⟩) NB232_233.out _).trans (((cell_far (p := ⟨gb233, _, none⟩) NB232_233.out _).trans (hHeld.2.2.2.2.2.2.2.2.2.2.2.2.2.2.1)))), ((cell_far (p := ⟨gb233, _, none⟩) NB232_233.out _).trans (((cell_far (p := ⟨gb233, _, none⟩) NB232_233.out _).trans (hHeld.2.2.2.2.2.2.2.2.2.2.2.2.2.2.2))))⟩ (fun hHeld => ?_)
              clear hK K
              refine done_ (done_of HT_.out (by kernel_rfl)) ?_
              try go_wp2
              refine bodyPost_ret (results_tc rfl _ _ gb233 28 #[.int .i64 t242, .int .i64 t243] (0, 0) _ rfl (bk_ BK233) Try.underlying28 rfl (by kernel_rfl)) rfl ?_
              exact ⟨id_, bw_ HB⟩
          · replace c108 := Bool.eq_false_iff.mpr c108
            subst c108
            have H1 : (some (false, t242, t243)) = some (r1, r2, r3) := by rw [if_neg (show ¬ (false = true) by decide)] at H; exact H
            clear H
            have H := H1
            clear H1
            simp only [Option.some.injEq, Prod.mk.injEq] at H
            obtain ⟨rfl, rfl, rfl⟩ := H
            have hnb138 := NB245_231.out
            have hnc138 := NB231_245.out
            have hnb139 := NB245_232.out
            have hnc139 := NB232_245.out
            have hnb140 := NB245_233.out
            have hnc140 := NB233_245.out
            have hnb141 := NB245_244.out
            have hnc141 := NB244_245.out
            obtain ⟨hcz142_0, hcz142_1, hfz142_0, hfz142_1⟩ := cz2_ BK245
            try go_wp2
            have n0_ := Aside0.mk (blk_drew BK231.out)
            have n1_ := Aside0.mk (blk_drew BK232.out)
            have n2_ := Aside0.mk (blk_drew BK233.out)
            have n3_ := Aside0.mk (blk_drew BK244.out)
            have n4_ := Aside0.mk (blk_drew BK245.out)
            have n5_ := Aside0.mk (below_drew1 HB.out)
            clear BK231
            clear BK232
            clear BK233
            clear BK244
            clear BK245
            clear HB
            have BK231 := n0_
            have BK232 := n1_
            have BK233 := n2_
            have BK244 := n3_
            have BK245 := n4_
            have HB := n5_
            clear n0_ n1_ n2_ n3_ n4_ n5_
            refine start_ (n := 29) (S := fun w' => w'.cell? ⟨gb231, 0, none⟩ = some (.int .i64 a0_0) ∧ w'.cell? ⟨gb231, 1, none⟩ = some (.slice A0_1 l0_1.length c0_1) ∧ w'.cell? ⟨gb245, 0, none⟩ = some (.int .i64 t242) ∧ w'.cell? ⟨gb245, 1, none⟩ = some (.int .i64 t243)) (ds := []) #[false, false, false, false, false, false, false, false, false, false, false, false, false, false, false, false, false, false, false, false, false, false, false, false, false, false, false, false, false] (by kernel_rfl) rfl rfl ⟨(blk_cell BK231.out 0).trans rfl, (blk_cell BK231.out 1).trans rfl, (blk_cell BK245.out 0).trans rfl, (blk_cell BK245.out 1).trans rfl⟩ (fun hHeld => ?_); refine with_tabW effects_Dead.tab6 effects_Dead.bits6 (fun HT_ HW_ => ?_)
            generalize wc.drew = w143 at BK231 BK232 BK233 BK244 BK245 HB hHeld ⊢
            refine take_ (i := 0) (N := some 51) (v := ?_) (a' := ?_) #[true, false, false, false, false, false, false, false, false, false, false, false, false, false, false, false, false, false, false, false, false, false, false, false, false, false, false, false, false] rfl rfl (take_ofW HT_.out HW_.out (by kernel_rfl)) (fun _ _ _ h => h) (Or.inl ⟨by rfl, ?_⟩) hHeld ?_ ?_
            rotate_left
            · rintro w' ⟨s0, s1, s2, s3⟩
              go_simp
              with_reducible rfl
            rotate_left
            · simp only [Act.put, List.setIfInBounds_toArray, List.set_cons_zero, List.set_cons_succ, i64_w, i32_w]
              rfl
            refine take_ (i := 26) (N := some 77) (v := ?_) (a' := ?_) #[true, false, false, false, false, false, false, false, false, false, false, false, false, false, false, false, false, false, false, false, false, false, false, false, false, false, true, false, false] rfl rfl (take_ofW HT_.out HW_.out (by kernel_rfl)) (fun _ _ _ h => h) (Or.inl ⟨by rfl, ?_⟩) hHeld ?_ ?_
            rotate_left
            · rintro w' ⟨s0, s1, s2, s3⟩
              go_simp
              with_reducible rfl
            rotate_left
            · simp only [Act.put, List.setIfInBounds_toArray, List.set_cons_zero, List.set_cons_succ, i64_w, i32_w]
              rfl
            refine one_ (i := 1) (N := some 52) #[true, true, false, false, false, false, false, false, false, false, false, false, false, false, false, false, false, false, false, false, false, false, false, false, false, false, true, false, false] rfl rfl (one_of HT_.out (by kernel_rfl)) (by decide) (fun K hK => ?_)
            refine goes_ Try.func40 (by kernel_rfl) rfl #[.agg #[.int .i64 a0_0, .slice A0_1 l0_1.length c0_1]] (by rfl) rfl rfl ar_ ?_
            with_reducible refine (effects_simple.calls kj3 a0_0 _ _ l0_1 false _ ?side1 ?side2 A107.out).mono ?_
            (case side1 => exact cb_ HR0_1 HB)
            (case side2 => exact HC0_1.out)
            rintro e w144 ⟨rfl, hb⟩
            refine ⟨_, rfl, ?_⟩
            have n0_ := Aside0.mk (blk_below (g := gb231) (o := .cells #[.int .i64 a0_0, .slice A0_1 l0_1.length c0_1] 24 (0, 0)) (bk_ BK231) hb)
            have n1_ := Aside0.mk (blk_below (g := gb232) (o := .cells #[.int .i64 a1_0, .int .i64 a1_1, .int .i64 a1_2, .int .i64 a1_3] 36 (0, 0)) (bk_ BK232) hb)
            have n2_ := Aside0.mk (blk_below (g := gb233) (o := .cells #[.int .i64 0, .int .i64 0] 28 (0, 0)) (bk_ BK233) hb)
            have n3_ := Aside0.mk (blk_below (g := gb244) (o := .cells #[.int .i64 t234, .int .i64 t235, .int .i64 t236, .int .i64 t237, .int .i64 t238, .int .i64 t239, .bool t240, .bool t241] 26 (0, 0)) (bk_ BK244) hb)
            have n4_ := Aside0.mk (blk_below (g := gb245) (o := .cells #[.int .i64 t242, .int .i64 t243] 28 (0, 0)) (bk_ BK245) hb)
            have n5_ := Aside0.mk (below_step (bw_ HB) hb)
            clear BK231
            clear BK232
            clear BK233
            clear BK244
            clear BK245
            clear HB
            have BK231 := n0_
            have BK232 := n1_
            have BK233 := n2_
            have BK244 := n3_
            have BK245 := n4_
            have HB := n5_
            clear n0_ n1_ n2_ n3_ n4_ n5_
            (try clear hb)
            (try clear hb2)
            (try clear hk)
            (try clear hi)
            refine hK.out _ _ ⟨(blk_cell BK231.out 0).trans rfl, (blk_cell BK231.out 1).trans rfl, (blk_cell BK245.out 0).trans rfl, (blk_cell BK245.out 1).trans rfl⟩ (fun hHeld => ?_)
            clear hK K
            refine norm_ (a' := ?_) ?_ ?_
            rotate_left
            · show Act.put _ (some 52) _ = _
              simp only [Act.put, List.setIfInBounds_toArray, List.set_cons_zero, List.set_cons_succ, i64_w, i32_w]
              rfl
            refine pure_ (i := 2) (N := some 53) (v := ?_) (a' := ?_) #[true, true, true, false, false, false, false, false, false, false, false, false, false, false, false, false, false, false, false, false, false, false, false, false, false, false, true, false, false] rfl rfl (any_of HT_.out (by kernel_rfl)) (fun _ _ _ h => h) (Or.inl ⟨by rfl, ?_⟩) ?_ ?_
            rotate_left
            · intro w'
              go_simp
              with_reducible rfl
            rotate_left
            · simp only [Act.put, List.setIfInBounds_toArray, List.set_cons_zero, List.set_cons_succ, i64_w, i32_w]
              rfl
            refine pure_ (i := 3) (N := some 54) (v := undef) (a' := ?_) #[true, true, true, true, false, false, false, false, false, false, false, false, false, false, false, false, false, false, false, false, false, false, false, false, false, false, true, false, false] rfl rfl (any_of HT_.out (by kernel_rfl)) (fun _ _ _ h => h) (Or.inr ⟨by rfl, rfl⟩) ?_ ?_
            rotate_left
            · simp only [Act.put, List.setIfInBounds_toArray, List.set_cons_zero, List.set_cons_succ, i64_w, i32_w]
              rfl
            refine pure_ (i := 4) (N := some 55) (v := undef) (a' := ?_) #[true, true, true, true, true, false, false, false, false, false, false, false, false, false, false, false, false, false, false, false, false, false, false, false, false, false, true, false, false] rfl rfl (any_of HT_.out (by kernel_rfl)) (fun _ _ _ h => h) (Or.inr ⟨by rfl, rfl⟩) ?_ ?_
            rotate_left
            · simp only [Act.put, List.setIfInBounds_toArray, List.set_cons_zero, List.set_cons_succ, i64_w, i32_w]
              rfl
            refine pure_ (i := 5) (N := some 56) (v := undef) (a' := ?_) #[true, true, true, true, true, true, false, false, false, false, false, false, false, false, false, false, false, false, false, false, false, false, false, false, false, false, true, false, false] rfl rfl (any_of HT_.out (by kernel_rfl)) (fun _ _ _ h => h) (Or.inr ⟨by rfl, rfl⟩) ?_ ?_
            rotate_left
            · simp only [Act.put, List.setIfInBounds_toArray, List.set_cons_zero, List.set_cons_succ, i64_w, i32_w]
              rfl
            refine pure_ (i := 6) (N := some 57) (v := undef) (a' := ?_) #[true, true, true, true, true, true, true, false, false, false, false, false, false, false, false, false, false, false, false, false, false, false, false, false, false, false, true, false, false] rfl rfl (any_of HT_.out (by kernel_rfl)) (fun _ _ _ h => h) (Or.inr ⟨by rfl, rfl⟩) ?_ ?_
            rotate_left
            · simp only [Act.put, List.setIfInBounds_toArray, List.set_cons_zero, List.set_cons_succ, i64_w, i32_w]
              rfl
            refine pure_ (i := 7) (N := some 58) (v := undef) (a' := ?_) #[true, true, true, true, true, true, true, true, false, false, false, false, false, false, false, false, false, false, false, false, false, false, false, false, false, false, true, false, false] rfl rfl (any_of HT_.out (by kernel_rfl)) (fun _ _ _ h => h) (Or.inr ⟨by rfl, rfl⟩) ?_ ?_
            rotate_left
            · simp only [Act.put, List.setIfInBounds_toArray, List.set_cons_zero, List.set_cons_succ, i64_w, i32_w]
              rfl
            refine pure_ (i := 8) (N := some 59) (v := undef) (a' := ?_) #[true, true, true, true, true, true, true, true, true, false, false, false, false, false, false, false, false, false, false, false, false, false, false, false, false, false, true, false, false] rfl rfl (any_of HT_.out (by kernel_rfl)) (fun _ _ _ h => h) (Or.inr ⟨by rfl, rfl⟩) ?_ ?_
            rotate_left
            · simp only [Act.put, List.setIfInBounds_toArray, List.set_cons_zero, List.set_cons_succ, i64_w, i32_w]
              rfl
            refine pure_ (i := 9) (N := some 60) (v := ?_) (a' := ?_) #[true, true, true, true, true, true, true, true, true, true, false, false, false, false, false, false, false, false, false, false, false, false, false, false, false, false, true, false, false] rfl rfl (any_of HT_.out (by kernel_rfl)) (fun _ _ _ h => h) (Or.inl ⟨by rfl, ?_⟩) ?_ ?_
            rotate_left
            · intro w'
              go_simp
              with_reducible rfl
            rotate_left
            · simp only [Act.put, List.setIfInBounds_toArray, List.set_cons_zero, List.set_cons_succ, i64_w, i32_w]
              rfl
            refine pure_ (i := 10) (N := some 61) (v := ?_) (a' := ?_) #[true, true, true, true, true, true, true, true, true, true, true, false, false, false, false, false, false, false, false, false, false, false, false, false, false, false, true, false, false] rfl rfl (any_of HT_.out (by kernel_rfl)) (fun _ _ _ h => h) (Or.inl ⟨by rfl, ?_⟩) ?_ ?_
            rotate_left
            · intro w'
              go_simp
              with_reducible rfl
            rotate_left
            · simp only [Act.put, List.setIfInBounds_toArray, List.set_cons_zero, List.set_cons_succ, i64_w, i32_w]
              rfl
            refine pure_ (i := 11) (N := some 62) (v := undef) (a' := ?_) #[true, true, true, true, true, true, true, true, true, true, true, true, false, false, false, false, false, false, false, false, false, false, false, false, false, false, true, false, false] rfl rfl (any_of HT_.out (by kernel_rfl)) (fun _ _ _ h => h) (Or.inr ⟨by rfl, rfl⟩) ?_ ?_
            rotate_left
            · simp only [Act.put, List.setIfInBounds_toArray, List.set_cons_zero, List.set_cons_succ, i64_w, i32_w]
              rfl
            refine pure_ (i := 12) (N := some 63) (v := undef) (a' := ?_) #[true, true, true, true, true, true, true, true, true, true, true, true, true, false, false, false, false, false, false, false, false, false, false, false, false, false, true, false, false] rfl rfl (any_of HT_.out (by kernel_rfl)) (fun _ _ _ h => h) (Or.inr ⟨by rfl, rfl⟩) ?_ ?_
            rotate_left
            · simp only [Act.put, List.setIfInBounds_toArray, List.set_cons_zero, List.set_cons_succ, i64_w, i32_w]
              rfl
            refine pure_ (i := 13) (N := some 64) (v := undef) (a' := ?_) #[true, true, true, true, true, true, true, true, true, true, true, true, true, true, false, false, false, false, false, false, false, false, false, false, false, false, true, false, false] rfl rfl (any_of HT_.out (by kernel_rfl)) (fun _ _ _ h => h) (Or.inr ⟨by rfl, rfl⟩) ?_ ?_
            rotate_left
            · simp only [Act.put, List.setIfInBounds_toArray, List.set_cons_zero, List.set_cons_succ, i64_w, i32_w]
              rfl
            refine pure_ (i := 14) (N := some 65) (v := undef) (a' := ?_) #[true, true, true, true, true, true, true, true, true, true, true, true, true, true, true, false, false, false, false, false, false, false, false, false, false, false, true, false, false] rfl rfl (any_of HT_.out (by kernel_rfl)) (fun _ _ _ h => h) (Or.inr ⟨by rfl, rfl⟩) ?_ ?_
            rotate_left
            · simp only [Act.put, List.setIfInBounds_toArray, List.set_cons_zero, List.set_cons_succ, i64_w, i32_w]
              rfl
            refine pure_ (i := 15) (N := some 66) (v := undef) (a' := ?_) #[true, true, true, true, true, true, true, true, true, true, true, true, true, true, true, true, false, false, false, false, false, false, false, false, false, false, true, false, false] rfl rfl (any_of HT_.out (by kernel_rfl)) (fun _ _ _ h => h) (Or.inr ⟨by rfl, rfl⟩) ?_ ?_
            rotate_left
            · simp only [Act.put, List.setIfInBounds_toArray, List.set_cons_zero, List.set_cons_succ, i64_w, i32_w]
              rfl
            refine pure_ (i := 16) (N := some 67) (v := undef) (a' := ?_) #[true, true, true, true, true, true, true, true, true, true, true, true, true, true, true, true, true, false, false, false, false, false, false, false, false, false, true, false, false] rfl rfl (any_of HT_.out (by kernel_rfl)) (fun _ _ _ h => h) (Or.inr ⟨by rfl, rfl⟩) ?_ ?_
            rotate_left
            · simp only [Act.put, List.setIfInBounds_toArray, List.set_cons_zero, List.set_cons_succ, i64_w, i32_w]
              rfl
            refine pure_ (i := 17) (N := some 68) (v := ?_) (a' := ?_) #[true, true, true, true, true, true, true, true, true, true, true, true, true, true, true, true, true, true, false, false, false, false, false, false, false, false, true, false, false] rfl rfl (any_of HT_.out (by kernel_rfl)) (fun _ _ _ h => h) (Or.inl ⟨by rfl, ?_⟩) ?_ ?_
            rotate_left
            · intro w'
              go_simp
              with_reducible rfl
            rotate_left
            · simp only [Act.put, List.setIfInBounds_toArray, List.set_cons_zero, List.set_cons_succ, i64_w, i32_w]
              rfl
            refine pure_ (i := 18) (N := some 69) (v := ?_) (a' := ?_) #[true, true, true, true, true, true, true, true, true, true, true, true, true, true, true, true, true, true, true, false, false, false, false, false, false, false, true, false, false] rfl rfl (any_of HT_.out (by kernel_rfl)) (fun _ _ _ h => h) (Or.inl ⟨by rfl, ?_⟩) ?_ ?_
            rotate_left
            · intro w'
              go_simp
              with_reducible rfl
            rotate_left
            · simp only [Act.put, List.setIfInBounds_toArray, List.set_cons_zero, List.set_cons_succ, i64_w, i32_w]
              rfl
            refine pure_ (i := 19) (N := some 70) (v := undef) (a' := ?_) #[true, true, true, true, true, true, true, true, true, true, true, true, true, true, true, true, true, true, true, true, false, false, false, false, false, false, true, false, false] rfl rfl (any_of HT_.out (by kernel_rfl)) (fun _ _ _ h => h) (Or.inr ⟨by rfl, rfl⟩) ?_ ?_
            rotate_left
            · simp only [Act.put, List.setIfInBounds_toArray, List.set_cons_zero, List.set_cons_succ, i64_w, i32_w]
              rfl
            refine pure_ (i := 20) (N := some 71) (v := undef) (a' := ?_) #[true, true, true, true, true, true, true, true, true, true, true, true, true, true, true, true, true, true, true, true, true, false, false, false, false, false, true, false, false] rfl rfl (any_of HT_.out (by kernel_rfl)) (fun _ _ _ h => h) (Or.inr ⟨by rfl, rfl⟩) ?_ ?_
            rotate_left
            · simp only [Act.put, List.setIfInBounds_toArray, List.set_cons_zero, List.set_cons_succ, i64_w, i32_w]
              rfl
            refine pure_ (i := 21) (N := some 72) (v := undef) (a' := ?_) #[true, true, true, true, true, true, true, true, true, true, true, true, true, true, true, true, true, true, true, true, true, true, false, false, false, false, true, false, false] rfl rfl (any_of HT_.out (by kernel_rfl)) (fun _ _ _ h => h) (Or.inr ⟨by rfl, rfl⟩) ?_ ?_
            rotate_left
            · simp only [Act.put, List.setIfInBounds_toArray, List.set_cons_zero, List.set_cons_succ, i64_w, i32_w]
              rfl
            refine pure_ (i := 22) (N := some 73) (v := undef) (a' := ?_) #[true, true, true, true, true, true, true, true, true, true, true, true, true, true, true, true, true, true, true, true, true, true, true, false, false, false, true, false, false] rfl rfl (any_of HT_.out (by kernel_rfl)) (fun _ _ _ h => h) (Or.inr ⟨by rfl, rfl⟩) ?_ ?_
            rotate_left
            · simp only [Act.put, List.setIfInBounds_toArray, List.set_cons_zero, List.set_cons_succ, i64_w, i32_w]
              rfl
            refine pure_ (i := 23) (N := some 74) (v := undef) (a' := ?_) #[true, true, true, true, true, true, true, true, true, true, true, true, true, true, true, true, true, true, true, true, true, true, true, true, false, false, true, false, false] rfl rfl (any_of HT_.out (by kernel_rfl)) (fun _ _ _ h => h) (Or.inr ⟨by rfl, rfl⟩) ?_ ?_
            rotate_left
            · simp only [Act.put, List.setIfInBounds_toArray, List.set_cons_zero, List.set_cons_succ, i64_w, i32_w]
              rfl
            refine pure_ (i := 24) (N := some 75) (v := undef) (a' := ?_) #[true, true, true, true, true, true, true, true, true, true, true, true, true, true, true, true, true, true, true, true, true, true, true, true, true, false, true, false, false] rfl rfl (any_of HT_.out (by kernel_rfl)) (fun _ _ _ h => h) (Or.inr ⟨by rfl, rfl⟩) ?_ ?_
            rotate_left
            · simp only [Act.put, List.setIfInBounds_toArray, List.set_cons_zero, List.set_cons_succ, i64_w, i32_w]
              rfl
            refine pure_ (i := 25) (N := some 76) (v := ?_) (a' := ?_) #[true, true, true, true, true, true, true, true, true, true, true, true, true, true, true, true, true, true, true, true, true, true, true, true, true, true, true, false, false] rfl rfl (any_of HT_.out (by kernel_rfl)) (fun _ _ _ h => h) (Or.inl ⟨by rfl, ?_⟩) ?_ ?_
            rotate_left
            · intro w'
              go_simp
              with_reducible rfl
            rotate_left
            · simp only [Act.put, List.setIfInBounds_toArray, List.set_cons_zero, List.set_cons_succ, i64_w, i32_w]
              rfl
            refine pure_ (i := 27) (N := some 4) (v := ?_) (a' := ?_) #[true, true, true, true, true, true, true, true, true, true, true, true, true, true, true, true, true, true, true, true, true, true, true, true, true, true, true, true, false] rfl rfl (any_of HT_.out (by kernel_rfl)) (fun _ _ _ h => h) (Or.inl ⟨by rfl, ?_⟩) ?_ ?_
            rotate_left
            · intro w'
              go_simp
              with_reducible rfl
            rotate_left
            · simp only [Act.put, List.setIfInBounds_toArray, List.set_cons_zero, List.set_cons_succ, i64_w, i32_w]
              rfl
            refine one_ (i := 28) (N := none) #[true, true, true, true, true, true, true, true, true, true, true, true, true, true, true, true, true, true, true, true, true, true, true, true, true, true, true, true, true] rfl rfl (one_of HT_.out (by kernel_rfl)) (by decide) (fun K hK => ?_)
            have hs145 : w144.cell? ⟨gb233, 0, none⟩ = some (.int .i64 0) := (blk_cell BK233.out 0).trans rfl
            have hfs145 := blk_frozen BK233.out 0
            have hns145_0 := NB231_233.out
            have hns145_1 := NB232_233.out
            have hns145_3 := NB244_233.out
            have hns145_4 := NB245_233.out
            have hms145_0 := NB233_231.out
            have hms145_1 := NB233_232.out
            have hms145_3 := NB233_244.out
            have hms145_4 := NB233_245.out
            have hs146 : w144.cell? ⟨gb233, 1, none⟩ = some (.int .i64 0) := (blk_cell BK233.out 1).trans rfl
            have hfs146 := blk_frozen BK233.out 1
            have hns146_0 := NB231_233.out
            have hns146_1 := NB232_233.out
            have hns146_3 := NB244_233.out
            have hns146_4 := NB245_233.out
            have hms146_0 := NB233_231.out
            have hms146_1 := NB233_232.out
            have hms146_3 := NB233_244.out
            have hms146_4 := NB233_245.out
            with_reducible refine skip_ (w1 := ?w1_6) ?ha_6 ?hb_6 ?hc_6 ?hd_6
            case ha_6 => rfl
            case hb_6 => rfl
            case hc_6 =>
              go_simp
              rfl
            refine hK.out _ _ ⟨((cell_far (p := ⟨gb233, _, none⟩) NB231_233.out _).trans (((cell_far (p := ⟨gb233, _, none⟩) NB231_233.out _).trans (hHeld.1)))), ((cell_far (p := ⟨gb233, _, none⟩) NB231_233.out _).trans (((cell_far (p := ⟨gb233, _, none⟩) NB231_233.out _).trans (hHeld.2.1)))), ((cell_far (p := ⟨gb233, _, none⟩) NB245_233.out _).trans (((cell_far (p := ⟨gb233, _, none⟩) NB245_233.out _).trans (hHeld.2.2.1)))), ((cell_far (p := ⟨gb233, _, none⟩) NB245_233.out _).trans (((cell_far (p := ⟨gb233, _, none⟩) NB245_233.out _).trans (hHeld.2.2.2))))⟩ (fun hHeld => ?_)
            clear hK K
            refine done_ (done_of HT_.out (by kernel_rfl)) ?_
            try go_wp2
            refine bodyPost_ret (results_tc rfl _ _ gb233 28 #[.int .i64 t242, .int .i64 t243] (0, 0) _ rfl (bk_ BK233) Try.underlying28 rfl (by kernel_rfl)) rfl ?_
            exact ⟨id_, bw_ HB⟩

end Go.Proofs.Ytaellapacoikaaa.PA
