import Derived.Test.YtaellapacoikaaaV0
import Derived.Test.YtaellapacoikaaaVSAx0
import Derived.Test.YtaellapacoikaaaVSAx1
import Derived.Test.YtaellapacoikaaaVSAx2
import Derived.Test.YtaellapacoikaaaVSAx7
import Derived.Test.YtaellapacoikaaaVSAx8
import Derived.Test.YtaellapacoikaaaVSAx11
import Derived.Test.YtaellapacoikaaaVSAx12
namespace Go.Proofs.Ytaellapacoikaaa.PA
open Go.RowKit Go.Proofs.YtaellapacoikaaaW.PrintWords Go.Proofs.YtaellapacoikaaaW.PrintLast Go.Proofs.YtaellapacoikaaaW.PrintMore
attribute [local go_sem] max2_int min2_int max_two min_two max_three min_three max_four min_four   -- for this text's walks alone
set_option linter.unusedVariables false
set_option linter.unusedSimpArgs false

attribute [local go_sem high] eqA26 eqA28
/-! ### linkhouselaw7_EffectsMatchSpec: function 3 -/
set_option maxRecDepth 100000 in
def linkhouselaw7_EffectsMatchSpec.f (k : Nat) (a0_0 : Int) (l0_1 : List Int) : Option (Bool) := (effects_Of.f k a0_0 l0_1).bind fun bt287 => ((linkhouseref7_InsFault.f k a0_0 l0_1).bind fun bt299 => (if bt299.1 = 0 then (if bt287.2.2.2.2.2.2.2.2.1 = 0 then ((linkhouseref7_Effect.f k a0_0 l0_1).bind fun bt302 => (if (bt287.1 == bt302.1 && (bt287.2.1 == bt302.2.1 && (bt287.2.2.1 == bt302.2.2.1 && (bt287.2.2.2.1 == bt302.2.2.2.1 && (bt287.2.2.2.2.1 == bt302.2.2.2.2.1 && (bt287.2.2.2.2.2.1 == bt302.2.2.2.2.2.1 && (bt287.2.2.2.2.2.2.1 == bt302.2.2.2.2.2.2.1 && (bt287.2.2.2.2.2.2.2.1 == bt302.2.2.2.2.2.2.2)))))))) = true then ((linkhouselaw7_added.f k).bind fun t310 => (some t310)) else (some false))) else (some false)) else (if (bt287.2.2.2.2.2.2.2.2.1 == bt299.1 && (bt287.2.2.2.2.2.2.2.2.2 == bt299.2)) = true then (if (bt287.1 == 0 && (bt287.2.1 == 0 && (bt287.2.2.1 == 0 && (bt287.2.2.2.1 == 0 && (bt287.2.2.2.2.1 == 0 && (bt287.2.2.2.2.2.1 == 0 && (!bt287.2.2.2.2.2.2.1 && (!bt287.2.2.2.2.2.2.2.1)))))))) = true then ((linkhouselaw7_added.f k).bind fun t311 => (some t311)) else (some false)) else (some false))))
set_option maxRecDepth 100000 in
theorem linkhouselaw7_EffectsMatchSpec.mono : ∀ a0 a1 k, LeO (linkhouselaw7_EffectsMatchSpec.f k a0 a1) (linkhouselaw7_EffectsMatchSpec.f (k + 1) a0 a1) := by
  intro a0 a1 k
  unfold linkhouselaw7_EffectsMatchSpec.f
  repeat' first
      | (with_reducible exact effects_Of.mono _ _ _)
      | (with_reducible exact linkhouselaw7_added.mono _)
      | (with_reducible exact linkhouseref7_Effect.mono _ _ _)
      | (with_reducible exact linkhouseref7_InsFault.mono _ _ _)
      | (with_reducible exact LeO.refl _)
      | (with_reducible exact LeO.none _)
      | (with_reducible refine LeO.ite ?_ ?_)
      | (with_reducible refine LeO.bind ?_ (fun _ => ?_))
      | exact effects_Of.mono _ _ _
      | exact linkhouselaw7_added.mono _
      | exact linkhouseref7_Effect.mono _ _ _
      | exact linkhouseref7_InsFault.mono _ _ _
      | exact LeO.none _
      | refine LeO.ite ?_ ?_
      | refine LeO.bind ?_ (fun _ => ?_)
def linkhouselaw7_EffectsMatchSpec.T5 : Bool × List (List Nat × List Nat) := (true, [([], []), ([0], [0]), ([1], [1]), ([2], [2]), ([3], [3]), ([3], [3]), ([5, 3, 3], [3, 5]), ([4, 6, 3], [3, 4, 6]), ([3, 7], [3, 7]), ([8, 6], [8]), ([9, 9], [9]), ([9, 10], [9, 10]), ([11, 10, 0, 1, 2, 3, 4, 5, 6, 7, 8, 9, 10, 11], [11])])
def linkhouselaw7_EffectsMatchSpec.B5 : List Nat := [0, 1, 3, 7, 15, 15, 47, 127, 255, 511, 1023, 2047, 4095]
theorem linkhouselaw7_EffectsMatchSpec.tab5 : rtab .any (opsOf Try.f3 5) = linkhouselaw7_EffectsMatchSpec.T5 := by kernel_rfl
theorem linkhouselaw7_EffectsMatchSpec.bits5 : waitsOk linkhouselaw7_EffectsMatchSpec.T5.2 linkhouselaw7_EffectsMatchSpec.B5 = true := by kernel_rfl
set_option maxHeartbeats 8000000 in
set_option maxRecDepth 100000 in
theorem linkhouselaw7_EffectsMatchSpec.calls (k : Nat) (a0_0 : Int) (A0_1 : Option Addr) (c0_1 : Nat) (l0_1 : List Int) (r : Bool) (w : World) (hr0_1 : Kd.C (Kd.int .i64) w A0_1 l0_1.length l0_1) (hc0_1 : l0_1.length ≤ c0_1) (h : linkhouselaw7_EffectsMatchSpec.f k a0_0 l0_1 = some r) :
    Calls Try.prog 3 #[.agg #[.int .i64 a0_0, .slice A0_1 l0_1.length c0_1]] w fun e w' => e = .returned (.bool r) ∧ Below w.heap.size w w' := by
  have hu24 := Try.underlying24
  have hu26 := Try.underlying26
  have hu28 := Try.underlying28
  have HR0_1 := Aside0.mk hr0_1
  have HC0_1 := Aside0.mk hc0_1
  clear hr0_1 hc0_1
  have HB := Aside0.mk (Below.refl w.heap.size w)
  have H : ((effects_Of.f k a0_0 l0_1).bind fun bt287 => ((linkhouseref7_InsFault.f k a0_0 l0_1).bind fun bt299 => (if bt299.1 = 0 then (if bt287.2.2.2.2.2.2.2.2.1 = 0 then ((linkhouseref7_Effect.f k a0_0 l0_1).bind fun bt302 => (if (bt287.1 == bt302.1 && (bt287.2.1 == bt302.2.1 && (bt287.2.2.1 == bt302.2.2.1 && (bt287.2.2.2.1 == bt302.2.2.2.1 && (bt287.2.2.2.2.1 == bt302.2.2.2.2.1 && (bt287.2.2.2.2.2.1 == bt302.2.2.2.2.2.1 && (bt287.2.2.2.2.2.2.1 == bt302.2.2.2.2.2.2.1 && (bt287.2.2.2.2.2.2.2.1 == bt302.2.2.2.2.2.2.2)))))))) = true then ((linkhouselaw7_added.f k).bind fun t310 => (some t310)) else (some false))) else (some false)) else (if (bt287.2.2.2.2.2.2.2.2.1 == bt299.1 && (bt287.2.2.2.2.2.2.2.2.2 == bt299.2)) = true then (if (bt287.1 == 0 && (bt287.2.1 == 0 && (bt287.2.2.1 == 0 && (bt287.2.2.2.1 == 0 && (bt287.2.2.2.2.1 == 0 && (bt287.2.2.2.2.2.1 == 0 && (!bt287.2.2.2.2.2.2.1 && (!bt287.2.2.2.2.2.2.2.1)))))))) = true then ((linkhouselaw7_added.f k).bind fun t311 => (some t311)) else (some false)) else (some false))))) = some r := h
  clear h
  replace H := Option.bind_eq_some_iff.mp H
  obtain ⟨⟨t287, t288, t289, t290, t291, t292, t293, t294, t295, t296⟩, A20, H⟩ := H
  replace H : ((linkhouseref7_InsFault.f k a0_0 l0_1).bind fun bt299 => (if bt299.1 = 0 then (if t295 = 0 then ((linkhouseref7_Effect.f k a0_0 l0_1).bind fun bt302 => (if (t287 == bt302.1 && (t288 == bt302.2.1 && (t289 == bt302.2.2.1 && (t290 == bt302.2.2.2.1 && (t291 == bt302.2.2.2.2.1 && (t292 == bt302.2.2.2.2.2.1 && (t293 == bt302.2.2.2.2.2.2.1 && (t294 == bt302.2.2.2.2.2.2.2)))))))) = true then ((linkhouselaw7_added.f k).bind fun t310 => (some t310)) else (some false))) else (some false)) else (if (t295 == bt299.1 && (t296 == bt299.2)) = true then (if (t287 == 0 && (t288 == 0 && (t289 == 0 && (t290 == 0 && (t291 == 0 && (t292 == 0 && (!t293 && (!t294)))))))) = true then ((linkhouselaw7_added.f k).bind fun t311 => (some t311)) else (some false)) else (some false)))) = some r := H
  have A2 := Aside0.mk A20
  clear A20
  replace H := Option.bind_eq_some_iff.mp H
  obtain ⟨⟨t299, t300⟩, A30, H⟩ := H
  replace H : (if t299 = 0 then (if t295 = 0 then ((linkhouseref7_Effect.f k a0_0 l0_1).bind fun bt302 => (if (t287 == bt302.1 && (t288 == bt302.2.1 && (t289 == bt302.2.2.1 && (t290 == bt302.2.2.2.1 && (t291 == bt302.2.2.2.2.1 && (t292 == bt302.2.2.2.2.2.1 && (t293 == bt302.2.2.2.2.2.2.1 && (t294 == bt302.2.2.2.2.2.2.2)))))))) = true then ((linkhouselaw7_added.f k).bind fun t310 => (some t310)) else (some false))) else (some false)) else (if (t295 == t299 && (t296 == t300)) = true then (if (t287 == 0 && (t288 == 0 && (t289 == 0 && (t290 == 0 && (t291 == 0 && (t292 == 0 && (!t293 && (!t294)))))))) = true then ((linkhouselaw7_added.f k).bind fun t311 => (some t311)) else (some false)) else (some false))) = some r := H
  have A3 := Aside0.mk A30
  clear A30
  by_cases c4 : t299 = 0
  · rw [if_pos c4] at H
    have c4b0 : (t299 == 0) = true := beq_iff_eq.mpr c4
    have c4b1 : (t299 != 0) = false := bne_eq_false_iff_eq.mpr c4
    clear c4
    by_cases c5 : t295 = 0
    · rw [if_pos c5] at H
      have c5b0 : (t295 == 0) = true := beq_iff_eq.mpr c5
      have c5b1 : (t295 != 0) = false := bne_eq_false_iff_eq.mpr c5
      clear c5
      replace H := Option.bind_eq_some_iff.mp H
      obtain ⟨⟨t302, t303, t304, t305, t306, t307, t308, t309⟩, A60, H⟩ := H
      replace H : (if (t287 == t302 && (t288 == t303 && (t289 == t304 && (t290 == t305 && (t291 == t306 && (t292 == t307 && (t293 == t308 && (t294 == t309)))))))) = true then ((linkhouselaw7_added.f k).bind fun t310 => (some t310)) else (some false)) = some r := H
      have A6 := Aside0.mk A60
      clear A60
      by_cases c7 : (t287 == t302 && (t288 == t303 && (t289 == t304 && (t290 == t305 && (t291 == t306 && (t292 == t307 && (t293 == t308 && (t294 == t309)))))))) = true
      · rw [if_pos c7] at H
        have c7b0 : (t287 == t302 && (t288 == t303 && (t289 == t304 && (t290 == t305 && (t291 == t306 && (t292 == t307 && (t293 == t308 && (t294 == t309)))))))) = true := c7
        (try (have c7b1 : decide (t287 = t302 && (t288 == t303 && (t289 == t304 && (t290 == t305 && (t291 == t306 && (t292 == t307 && (t293 == t308 && (t294 == t309)))))))) = true := by simpa using c7))
        (try (have c7b2 : (t287 == t302 && (t288 == t303 && (t289 == t304 && (t290 == t305 && (t291 == t306 && (t292 == t307 && (t293 == t308 && (t294 == t309)))))))) = true := by simpa using c7))
        clear c7
        replace H := Option.bind_eq_some_iff.mp H
        obtain ⟨t310, A80, H⟩ := H
        replace H : (some t310) = some r := H
        have A8 := Aside0.mk A80
        clear A80
        obtain rfl := Option.some.inj H
        go_enter Try.func3, Try.ntmps3
        try go_wp2_with (first | ((with_reducible refine gate_dst (N := 1) rfl ?_); refine bx_ (N := 1) (cs := #[.int .i64 a0_0, .slice A0_1 l0_1.length c0_1]) (t := 24) ?_; intro gb286 hg w9 hbox hb; have BK286 := Aside0.mk hbox; have GW286 := bs_ HB hg; have GE286 := bs_ HB hg; replace HB := hs_ HB hb; clear hb hbox hg; obtain ⟨hcz10_0, hcz10_1, hfz10_0, hfz10_1⟩ := cz2_ BK286) | ((with_reducible refine gate_callee (f := 11) rfl ?_); refine goesL_ (some 8) rfl rfl Try.func11 (by kernel_rfl) rfl #[.agg #[.int .i64 a0_0, .slice A0_1 l0_1.length c0_1]] rfl ar_ ?_; (with_reducible refine (effects_Of.calls k a0_0 _ _ l0_1 t287 t288 t289 t290 t291 t292 t293 t294 t295 t296 _ ?side1 ?side2 A2.out).mono ?_); (case side1 => exact cb_ HR0_1 HB); (case side2 => exact HC0_1.out); rintro e w11 ⟨rfl, hb⟩; refine ⟨_, rfl, ?_⟩; replace BK286 := bb_ BK286 hb; replace HB := hs_ HB hb; (try clear hb); (try clear hb2); (try clear hk); (try clear hi)) | ((with_reducible refine gate_dst (N := 3) rfl ?_); refine bx_ (N := 3) (cs := #[.int .i64 0, .int .i64 0, .int .i64 0, .int .i64 0, .int .i64 0, .int .i64 0, .bool false, .bool false]) (t := 26) ?_; intro gb297 hg w12 hbox hb; have BK297 := Aside0.mk hbox; have GW297 := bs_ HB hg; have GE297 := bs_ HB hg; have NB286_297 := nl_ BK286 hg; have NB297_286 := ng_ BK286 hg; replace BK286 := bb_ BK286 hb; replace HB := hs_ HB hb; clear hb hbox hg) | ((with_reducible refine gate_dst (N := 4) rfl ?_); refine bx_ (N := 4) (cs := #[.int .i64 0, .int .i64 0]) (t := 28) ?_; intro gb298 hg w13 hbox hb; have BK298 := Aside0.mk hbox; have GW298 := bs_ HB hg; have GE298 := bs_ HB hg; have NB286_298 := nl_ BK286 hg; have NB298_286 := ng_ BK286 hg; have NB297_298 := nl_ BK297 hg; have NB298_297 := ng_ BK297 hg; replace BK286 := bb_ BK286 hb; replace BK297 := bb_ BK297 hb; replace HB := hs_ HB hb; clear hb hbox hg; have hnb14 := NB297_286.out; have hnc14 := NB286_297.out; have hnb15 := NB297_298.out; have hnc15 := NB298_297.out; obtain ⟨hcz16_0, hcz16_1, hcz16_2, hcz16_3, hcz16_4, hcz16_5, hcz16_6, hcz16_7, hfz16_0, hfz16_1, hfz16_2, hfz16_3, hfz16_4, hfz16_5, hfz16_6, hfz16_7⟩ := cz8_ BK297; have hnb17 := NB298_286.out; have hnc17 := NB286_298.out; obtain ⟨hcz18_0, hcz18_1, hfz18_0, hfz18_1⟩ := cz2_ BK298; obtain ⟨hcz19_0, hcz19_1, hfz19_0, hfz19_1⟩ := cz2_ BK286) | ((with_reducible refine gate_callee (f := 12) rfl ?_); refine goesL_ (some 12) rfl rfl Try.func12 (by kernel_rfl) rfl #[.agg #[.int .i64 a0_0, .slice A0_1 l0_1.length c0_1]] rfl ar_ ?_; (with_reducible refine (linkhouseref7_InsFault.calls k a0_0 _ _ l0_1 t299 t300 _ ?side1 ?side2 A3.out).mono ?_); (case side1 => exact cb_ HR0_1 HB); (case side2 => exact HC0_1.out); rintro e w20 ⟨rfl, hb⟩; refine ⟨_, rfl, ?_⟩; replace BK286 := bb_ BK286 hb; replace BK297 := bo_ (o' := .cells #[.int .i64 t287, .int .i64 t288, .int .i64 t289, .int .i64 t290, .int .i64 t291, .int .i64 t292, .bool t293, .bool t294] 26 (0, 0)) BK297 hb; replace BK298 := bo_ (o' := .cells #[.int .i64 t295, .int .i64 t296] 28 (0, 0)) BK298 hb; replace HB := hs_ HB hb; (try clear hb); (try clear hb2); (try clear hk); (try clear hi)) | ((with_reducible refine gate_dst (N := 5) rfl ?_); refine bx_ (N := 5) (cs := #[.int .i64 0, .int .i64 0]) (t := 28) ?_; intro gb301 hg w21 hbox hb; have BK301 := Aside0.mk hbox; have GW301 := bs_ HB hg; have GE301 := bs_ HB hg; have NB286_301 := nl_ BK286 hg; have NB301_286 := ng_ BK286 hg; have NB297_301 := nl_ BK297 hg; have NB301_297 := ng_ BK297 hg; have NB298_301 := nl_ BK298 hg; have NB301_298 := ng_ BK298 hg; replace BK286 := bb_ BK286 hb; replace BK297 := bb_ BK297 hb; replace BK298 := bb_ BK298 hb; replace HB := hs_ HB hb; clear hb hbox hg; have hnb22 := NB301_286.out; have hnc22 := NB286_301.out; have hnb23 := NB301_297.out; have hnc23 := NB297_301.out; have hnb24 := NB301_298.out; have hnc24 := NB298_301.out; obtain ⟨hcz25_0, hcz25_1, hfz25_0, hfz25_1⟩ := cz2_ BK301))
        have n0_ : Aside0 (((w21.setCell ⟨gb301, 0, none⟩ (.int .i64 t299)).setCell ⟨gb301, 1, none⟩ (.int .i64 t300)).heap[gb286]? = some (.cells #[.int .i64 a0_0, .slice A0_1 l0_1.length c0_1] 24 (0, 0))) := ⟨bk_ BK286⟩
        have n1_ : Aside0 (((w21.setCell ⟨gb301, 0, none⟩ (.int .i64 t299)).setCell ⟨gb301, 1, none⟩ (.int .i64 t300)).heap[gb297]? = some (.cells #[.int .i64 t287, .int .i64 t288, .int .i64 t289, .int .i64 t290, .int .i64 t291, .int .i64 t292, .bool t293, .bool t294] 26 (0, 0))) := ⟨bk_ BK297⟩
        have n2_ : Aside0 (((w21.setCell ⟨gb301, 0, none⟩ (.int .i64 t299)).setCell ⟨gb301, 1, none⟩ (.int .i64 t300)).heap[gb298]? = some (.cells #[.int .i64 t295, .int .i64 t296] 28 (0, 0))) := ⟨bk_ BK298⟩
        have n3_ : Aside0 (((w21.setCell ⟨gb301, 0, none⟩ (.int .i64 t299)).setCell ⟨gb301, 1, none⟩ (.int .i64 t300)).heap[gb301]? = some (.cells #[.int .i64 t299, .int .i64 t300] 28 (0, 0))) := ⟨bk_ BK301⟩
        have n4_ : Aside0 (Below w.heap.size w ((w21.setCell ⟨gb301, 0, none⟩ (.int .i64 t299)).setCell ⟨gb301, 1, none⟩ (.int .i64 t300))) := ⟨bw_ HB⟩
        (try clear BK286)
        (try clear BK297)
        (try clear BK298)
        (try clear BK301)
        (try clear HB)
        generalize ((w21.setCell ⟨gb301, 0, none⟩ (.int .i64 t299)).setCell ⟨gb301, 1, none⟩ (.int .i64 t300)) = w26 at n0_ n1_ n2_ n3_ n4_ ⊢
        have BK286 := n0_
        have BK297 := n1_
        have BK298 := n2_
        have BK301 := n3_
        have HB := n4_
        clear n0_ n1_ n2_ n3_ n4_
        have n0_ := Aside0.mk (blk_drew BK286.out)
        have n1_ := Aside0.mk (blk_drew BK297.out)
        have n2_ := Aside0.mk (blk_drew BK298.out)
        have n3_ := Aside0.mk (blk_drew BK301.out)
        have n4_ := Aside0.mk (below_drew1 HB.out)
        clear BK286
        clear BK297
        clear BK298
        clear BK301
        clear HB
        have BK286 := n0_
        have BK297 := n1_
        have BK298 := n2_
        have BK301 := n3_
        have HB := n4_
        clear n0_ n1_ n2_ n3_ n4_
        refine start_ (n := 13) (S := fun w' => w'.cell? ⟨gb298, 0, none⟩ = some (.int .i64 t295) ∧ w'.cell? ⟨gb298, 1, none⟩ = some (.int .i64 t296) ∧ w'.cell? ⟨gb297, 0, none⟩ = some (.int .i64 t287) ∧ w'.cell? ⟨gb297, 1, none⟩ = some (.int .i64 t288) ∧ w'.cell? ⟨gb297, 2, none⟩ = some (.int .i64 t289) ∧ w'.cell? ⟨gb297, 3, none⟩ = some (.int .i64 t290) ∧ w'.cell? ⟨gb297, 4, none⟩ = some (.int .i64 t291) ∧ w'.cell? ⟨gb297, 5, none⟩ = some (.int .i64 t292) ∧ w'.cell? ⟨gb297, 6, none⟩ = some (.bool t293) ∧ w'.cell? ⟨gb297, 7, none⟩ = some (.bool t294) ∧ w'.cell? ⟨gb286, 0, none⟩ = some (.int .i64 a0_0) ∧ w'.cell? ⟨gb286, 1, none⟩ = some (.slice A0_1 l0_1.length c0_1)) (ds := []) #[false, false, false, false, false, false, false, false, false, false, false, false, false] (by kernel_rfl) rfl rfl ⟨(blk_cell BK298.out 0).trans rfl, (blk_cell BK298.out 1).trans rfl, (blk_cell BK297.out 0).trans rfl, (blk_cell BK297.out 1).trans rfl, (blk_cell BK297.out 2).trans rfl, (blk_cell BK297.out 3).trans rfl, (blk_cell BK297.out 4).trans rfl, (blk_cell BK297.out 5).trans rfl, (blk_cell BK297.out 6).trans rfl, (blk_cell BK297.out 7).trans rfl, (blk_cell BK286.out 0).trans rfl, (blk_cell BK286.out 1).trans rfl⟩ (fun hHeld => ?_); refine with_tabW linkhouselaw7_EffectsMatchSpec.tab5 linkhouselaw7_EffectsMatchSpec.bits5 (fun HT_ HW_ => ?_)
        generalize w26.drew = w27 at BK286 BK297 BK298 BK301 HB hHeld ⊢
        refine pure_ (i := 0) (N := some 27) (v := ?_) (a' := ?_) #[true, false, false, false, false, false, false, false, false, false, false, false, false] rfl rfl (any_of HT_.out (by kernel_rfl)) (fun _ _ _ h => h) (Or.inl ⟨by rfl, ?_⟩) ?_ ?_
        rotate_left
        · intro w'
          go_simp
          with_reducible rfl
        rotate_left
        · simp only [Act.put, List.setIfInBounds_toArray, List.set_cons_zero, List.set_cons_succ, i64_w, i32_w]
          rfl
        refine take_ (i := 1) (N := some 28) (v := ?_) (a' := ?_) #[true, true, false, false, false, false, false, false, false, false, false, false, false] rfl rfl (take_ofW HT_.out HW_.out (by kernel_rfl)) (fun _ _ _ h => h) (Or.inl ⟨by rfl, ?_⟩) hHeld ?_ ?_
        rotate_left
        · rintro w' ⟨s0, s1, s2, s3, s4, s5, s6, s7, s8, s9, s10, s11⟩
          go_simp
          with_reducible rfl
        rotate_left
        · simp only [Act.put, List.setIfInBounds_toArray, List.set_cons_zero, List.set_cons_succ, i64_w, i32_w]
          rfl
        refine pure_ (i := 2) (N := some 29) (v := ?_) (a' := ?_) #[true, true, true, false, false, false, false, false, false, false, false, false, false] rfl rfl (any_of HT_.out (by kernel_rfl)) (fun _ _ _ h => h) (Or.inl ⟨by rfl, ?_⟩) ?_ ?_
        rotate_left
        · intro w'
          go_simp
          with_reducible rfl
        rotate_left
        · simp only [Act.put, List.setIfInBounds_toArray, List.set_cons_zero, List.set_cons_succ, i64_w, i32_w]
          rfl
        refine pure_ (i := 3) (N := some 30) (v := ?_) (a' := ?_) #[true, true, true, true, false, false, false, false, false, false, false, false, false] rfl rfl (any_of HT_.out (by kernel_rfl)) (fun _ _ _ h => h) (Or.inl ⟨by rfl, ?_⟩) ?_ ?_
        rotate_left
        · intro w'
          go_simp
          with_reducible rfl
        rotate_left
        · simp only [Act.put, List.setIfInBounds_toArray, List.set_cons_zero, List.set_cons_succ, i64_w, i32_w]
          rfl
        refine take_ (i := 4) (N := some 31) (v := ?_) (a' := ?_) #[true, true, true, true, true, false, false, false, false, false, false, false, false] rfl rfl (take_ofW HT_.out HW_.out (by kernel_rfl)) (fun _ _ _ h => h) (Or.inl ⟨by rfl, ?_⟩) hHeld ?_ ?_
        rotate_left
        · rintro w' ⟨s0, s1, s2, s3, s4, s5, s6, s7, s8, s9, s10, s11⟩
          go_simp
          with_reducible rfl
        rotate_left
        · simp only [Act.put, List.setIfInBounds_toArray, List.set_cons_zero, List.set_cons_succ, i64_w, i32_w]
          rfl
        refine take_ (i := 5) (N := some 32) (v := ?_) (a' := ?_) #[true, true, true, true, true, true, false, false, false, false, false, false, false] rfl rfl (take_ofW HT_.out HW_.out (by kernel_rfl)) (fun _ _ _ h => h) (Or.inl ⟨by rfl, ?_⟩) hHeld ?_ ?_
        rotate_left
        · rintro w' ⟨s0, s1, s2, s3, s4, s5, s6, s7, s8, s9, s10, s11⟩
          go_simp
          with_reducible rfl
        rotate_left
        · simp only [Act.put, List.setIfInBounds_toArray, List.set_cons_zero, List.set_cons_succ, i64_w, i32_w]
          rfl
        refine one_ (i := 6) (N := some 33) #[true, true, true, true, true, true, true, false, false, false, false, false, false] rfl rfl (one_of HT_.out (by kernel_rfl)) (by decide) (fun K hK => ?_)
        refine goes_ Try.func14 (by kernel_rfl) rfl #[.agg #[.int .i64 a0_0, .slice A0_1 l0_1.length c0_1]] (by rfl) rfl rfl ar_ ?_
        with_reducible refine (linkhouseref7_Effect.calls k a0_0 _ _ l0_1 t302 t303 t304 t305 t306 t307 t308 t309 _ ?side1 ?side2 A6.out).mono ?_
        (case side1 => exact cb_ HR0_1 HB)
        (case side2 => exact HC0_1.out)
        rintro e w28 ⟨rfl, hb⟩
        refine ⟨_, rfl, ?_⟩
        have n0_ := Aside0.mk (blk_below (g := gb286) (o := .cells #[.int .i64 a0_0, .slice A0_1 l0_1.length c0_1] 24 (0, 0)) (bk_ BK286) hb)
        have n1_ := Aside0.mk (blk_below (g := gb297) (o := .cells #[.int .i64 t287, .int .i64 t288, .int .i64 t289, .int .i64 t290, .int .i64 t291, .int .i64 t292, .bool t293, .bool t294] 26 (0, 0)) (bk_ BK297) hb)
        have n2_ := Aside0.mk (blk_below (g := gb298) (o := .cells #[.int .i64 t295, .int .i64 t296] 28 (0, 0)) (bk_ BK298) hb)
        have n3_ := Aside0.mk (blk_below (g := gb301) (o := .cells #[.int .i64 t299, .int .i64 t300] 28 (0, 0)) (bk_ BK301) hb)
        have n4_ := Aside0.mk (below_step (bw_ HB) hb)
        clear BK286
        clear BK297
        clear BK298
        clear BK301
        clear HB
        have BK286 := n0_
        have BK297 := n1_
        have BK298 := n2_
        have BK301 := n3_
        have HB := n4_
        clear n0_ n1_ n2_ n3_ n4_
        (try clear hb)
        (try clear hb2)
        (try clear hk)
        (try clear hi)
        refine hK.out _ _ ⟨(blk_cell BK298.out 0).trans rfl, (blk_cell BK298.out 1).trans rfl, (blk_cell BK297.out 0).trans rfl, (blk_cell BK297.out 1).trans rfl, (blk_cell BK297.out 2).trans rfl, (blk_cell BK297.out 3).trans rfl, (blk_cell BK297.out 4).trans rfl, (blk_cell BK297.out 5).trans rfl, (blk_cell BK297.out 6).trans rfl, (blk_cell BK297.out 7).trans rfl, (blk_cell BK286.out 0).trans rfl, (blk_cell BK286.out 1).trans rfl⟩ (fun hHeld => ?_)
        clear hK K
        refine norm_ (a' := ?_) ?_ ?_
        rotate_left
        · show Act.put _ (some 33) _ = _
          simp only [Act.put, List.setIfInBounds_toArray, List.set_cons_zero, List.set_cons_succ, i64_w, i32_w]
          rfl
        refine pure_ (i := 7) (N := some 34) (v := ?_) (a' := ?_) #[true, true, true, true, true, true, true, true, false, false, false, false, false] rfl rfl (any_of HT_.out (by kernel_rfl)) (fun _ _ _ h => h) (Or.inl ⟨by rfl, ?_⟩) ?_ ?_
        rotate_left
        · intro w'
          go_simp
          with_reducible rfl
        rotate_left
        · simp only [Act.put, List.setIfInBounds_toArray, List.set_cons_zero, List.set_cons_succ, i64_w, i32_w]
          rfl
        refine pure_ (i := 8) (N := some 35) (v := ?_) (a' := ?_) #[true, true, true, true, true, true, true, true, true, false, false, false, false] rfl rfl (any_of HT_.out (by kernel_rfl)) (fun _ _ _ h => h) (Or.inl ⟨by rfl, ?_⟩) ?_ ?_
        rotate_left
        · intro w'
          go_simp
          with_reducible rfl
        rotate_left
        · simp only [Act.put, List.setIfInBounds_toArray, List.set_cons_zero, List.set_cons_succ, i64_w, i32_w]
          rfl
        refine pure_ (i := 9) (N := some 36) (v := ?_) (a' := ?_) #[true, true, true, true, true, true, true, true, true, true, false, false, false] rfl rfl (any_of HT_.out (by kernel_rfl)) (fun _ _ _ h => h) (Or.inl ⟨by rfl, ?_⟩) ?_ ?_
        rotate_left
        · intro w'
          go_simp
          with_reducible rfl
        rotate_left
        · simp only [Act.put, List.setIfInBounds_toArray, List.set_cons_zero, List.set_cons_succ, i64_w, i32_w]
          rfl
        refine one_ (i := 10) (N := some 37) #[true, true, true, true, true, true, true, true, true, true, true, false, false] rfl rfl (one_of HT_.out (by kernel_rfl)) (by decide) (fun K hK => ?_)
        refine goes_ Try.func13 (by kernel_rfl) rfl #[] (by rfl) rfl rfl ar_ ?_
        with_reducible refine (linkhouselaw7_added.calls k  t310 _ A8.out).mono ?_
        rintro e w29 ⟨rfl, hb⟩
        refine ⟨_, rfl, ?_⟩
        have n0_ := Aside0.mk (blk_below (g := gb286) (o := .cells #[.int .i64 a0_0, .slice A0_1 l0_1.length c0_1] 24 (0, 0)) (bk_ BK286) hb)
        have n1_ := Aside0.mk (blk_below (g := gb297) (o := .cells #[.int .i64 t287, .int .i64 t288, .int .i64 t289, .int .i64 t290, .int .i64 t291, .int .i64 t292, .bool t293, .bool t294] 26 (0, 0)) (bk_ BK297) hb)
        have n2_ := Aside0.mk (blk_below (g := gb298) (o := .cells #[.int .i64 t295, .int .i64 t296] 28 (0, 0)) (bk_ BK298) hb)
        have n3_ := Aside0.mk (blk_below (g := gb301) (o := .cells #[.int .i64 t299, .int .i64 t300] 28 (0, 0)) (bk_ BK301) hb)
        have n4_ := Aside0.mk (below_step (bw_ HB) hb)
        clear BK286
        clear BK297
        clear BK298
        clear BK301
        clear HB
        have BK286 := n0_
        have BK297 := n1_
        have BK298 := n2_
        have BK301 := n3_
        have HB := n4_
        clear n0_ n1_ n2_ n3_ n4_
        (try clear hb)
        (try clear hb2)
        (try clear hk)
        (try clear hi)
        refine hK.out _ _ ⟨(blk_cell BK298.out 0).trans rfl, (blk_cell BK298.out 1).trans rfl, (blk_cell BK297.out 0).trans rfl, (blk_cell BK297.out 1).trans rfl, (blk_cell BK297.out 2).trans rfl, (blk_cell BK297.out 3).trans rfl, (blk_cell BK297.out 4).trans rfl, (blk_cell BK297.out 5).trans rfl, (blk_cell BK297.out 6).trans rfl, (blk_cell BK297.out 7).trans rfl, (blk_cell BK286.out 0).trans rfl, (blk_cell BK286.out 1).trans rfl⟩ (fun hHeld => ?_)
        clear hK K
        refine norm_ (a' := ?_) ?_ ?_
        rotate_left
        · show Act.put _ (some 37) _ = _
          simp only [Act.put, List.setIfInBounds_toArray, List.set_cons_zero, List.set_cons_succ, i64_w, i32_w]
          rfl
        refine pure_ (i := 11) (N := some 38) (v := ?_) (a' := ?_) #[true, true, true, true, true, true, true, true, true, true, true, true, false] rfl rfl (any_of HT_.out (by kernel_rfl)) (fun _ _ _ h => h) (Or.inl ⟨by rfl, ?_⟩) ?_ ?_
        rotate_left
        · intro w'
          go_simp
          with_reducible rfl
        rotate_left
        · simp only [Act.put, List.setIfInBounds_toArray, List.set_cons_zero, List.set_cons_succ, i64_w, i32_w]
          rfl
        refine pure_ (i := 12) (N := some 2) (v := ?_) (a' := ?_) #[true, true, true, true, true, true, true, true, true, true, true, true, true] rfl rfl (any_of HT_.out (by kernel_rfl)) (fun _ _ _ h => h) (Or.inl ⟨by rfl, ?_⟩) ?_ ?_
        rotate_left
        · intro w'
          go_simp
          with_reducible rfl
        rotate_left
        · simp only [Act.put, List.setIfInBounds_toArray, List.set_cons_zero, List.set_cons_succ, i64_w, i32_w]
          rfl
        refine done_ (done_of HT_.out (by kernel_rfl)) ?_
        try go_wp2
        go_ret
        exact ⟨id_, bw_ HB⟩
      · rw [if_neg c7] at H
        have c7b0 : (t287 == t302 && (t288 == t303 && (t289 == t304 && (t290 == t305 && (t291 == t306 && (t292 == t307 && (t293 == t308 && (t294 == t309)))))))) = false := by simpa using c7
        (try (have c7b1 : decide (t287 = t302 && (t288 == t303 && (t289 == t304 && (t290 == t305 && (t291 == t306 && (t292 == t307 && (t293 == t308 && (t294 == t309)))))))) = false := by simpa using c7))
        (try (have c7b2 : (t287 == t302 && (t288 == t303 && (t289 == t304 && (t290 == t305 && (t291 == t306 && (t292 == t307 && (t293 == t308 && (t294 == t309)))))))) = false := by simpa using c7))
        (try (have c7b3 : ¬ (t287 = t302 && (t288 == t303 && (t289 == t304 && (t290 == t305 && (t291 == t306 && (t292 == t307 && (t293 == t308 && (t294 == t309)))))))) := by simpa using c7))
        clear c7
        obtain rfl := Option.some.inj H
        go_enter Try.func3, Try.ntmps3
        try go_wp2_with (first | ((with_reducible refine gate_dst (N := 1) rfl ?_); refine bx_ (N := 1) (cs := #[.int .i64 a0_0, .slice A0_1 l0_1.length c0_1]) (t := 24) ?_; intro gb286 hg w30 hbox hb; have BK286 := Aside0.mk hbox; have GW286 := bs_ HB hg; have GE286 := bs_ HB hg; replace HB := hs_ HB hb; clear hb hbox hg; obtain ⟨hcz31_0, hcz31_1, hfz31_0, hfz31_1⟩ := cz2_ BK286) | ((with_reducible refine gate_callee (f := 11) rfl ?_); refine goesL_ (some 8) rfl rfl Try.func11 (by kernel_rfl) rfl #[.agg #[.int .i64 a0_0, .slice A0_1 l0_1.length c0_1]] rfl ar_ ?_; (with_reducible refine (effects_Of.calls k a0_0 _ _ l0_1 t287 t288 t289 t290 t291 t292 t293 t294 t295 t296 _ ?side1 ?side2 A2.out).mono ?_); (case side1 => exact cb_ HR0_1 HB); (case side2 => exact HC0_1.out); rintro e w32 ⟨rfl, hb⟩; refine ⟨_, rfl, ?_⟩; replace BK286 := bb_ BK286 hb; replace HB := hs_ HB hb; (try clear hb); (try clear hb2); (try clear hk); (try clear hi)) | ((with_reducible refine gate_dst (N := 3) rfl ?_); refine bx_ (N := 3) (cs := #[.int .i64 0, .int .i64 0, .int .i64 0, .int .i64 0, .int .i64 0, .int .i64 0, .bool false, .bool false]) (t := 26) ?_; intro gb297 hg w33 hbox hb; have BK297 := Aside0.mk hbox; have GW297 := bs_ HB hg; have GE297 := bs_ HB hg; have NB286_297 := nl_ BK286 hg; have NB297_286 := ng_ BK286 hg; replace BK286 := bb_ BK286 hb; replace HB := hs_ HB hb; clear hb hbox hg) | ((with_reducible refine gate_dst (N := 4) rfl ?_); refine bx_ (N := 4) (cs := #[.int .i64 0, .int .i64 0]) (t := 28) ?_; intro gb298 hg w34 hbox hb; have BK298 := Aside0.mk hbox; have GW298 := bs_ HB hg; have GE298 := bs_ HB hg; have NB286_298 := nl_ BK286 hg; have NB298_286 := ng_ BK286 hg; have NB297_298 := nl_ BK297 hg; have NB298_297 := ng_ BK297 hg; replace BK286 := bb_ BK286 hb; replace BK297 := bb_ BK297 hb; replace HB := hs_ HB hb; clear hb hbox hg; have hnb35 := NB297_286.out; have hnc35 := NB286_297.out; have hnb36 := NB297_298.out; have hnc36 := NB298_297.out; obtain ⟨hcz37_0, hcz37_1, hcz37_2, hcz37_3, hcz37_4, hcz37_5, hcz37_6, hcz37_7, hfz37_0, hfz37_1, hfz37_2, hfz37_3, hfz37_4, hfz37_5, hfz37_6, hfz37_7⟩ := cz8_ BK297; have hnb38 := NB298_286.out; have hnc38 := NB286_298.out; obtain ⟨hcz39_0, hcz39_1, hfz39_0, hfz39_1⟩ := cz2_ BK298; obtain ⟨hcz40_0, hcz40_1, hfz40_0, hfz40_1⟩ := cz2_ BK286) | ((with_reducible refine gate_callee (f := 12) rfl ?_); refine goesL_ (some 12) rfl rfl Try.func12 (by kernel_rfl) rfl #[.agg #[.int .i64 a0_0, .slice A0_1 l0_1.length c0_1]] rfl ar_ ?_; (with_reducible refine (linkhouseref7_InsFault.calls k a0_0 _ _ l0_1 t299 t300 _ ?side1 ?side2 A3.out).mono ?_); (case side1 => exact cb_ HR0_1 HB); (case side2 => exact HC0_1.out); rintro e w41 ⟨rfl, hb⟩; refine ⟨_, rfl, ?_⟩; replace BK286 := bb_ BK286 hb; replace BK297 := bo_ (o' := .cells #[.int .i64 t287, .int .i64 t288, .int .i64 t289, .int .i64 t290, .int .i64 t291, .int .i64 t292, .bool t293, .bool t294] 26 (0, 0)) BK297 hb; replace BK298 := bo_ (o' := .cells #[.int .i64 t295, .int .i64 t296] 28 (0, 0)) BK298 hb; replace HB := hs_ HB hb; (try clear hb); (try clear hb2); (try clear hk); (try clear hi)) | ((with_reducible refine gate_dst (N := 5) rfl ?_); refine bx_ (N := 5) (cs := #[.int .i64 0, .int .i64 0]) (t := 28) ?_; intro gb301 hg w42 hbox hb; have BK301 := Aside0.mk hbox; have GW301 := bs_ HB hg; have GE301 := bs_ HB hg; have NB286_301 := nl_ BK286 hg; have NB301_286 := ng_ BK286 hg; have NB297_301 := nl_ BK297 hg; have NB301_297 := ng_ BK297 hg; have NB298_301 := nl_ BK298 hg; have NB301_298 := ng_ BK298 hg; replace BK286 := bb_ BK286 hb; replace BK297 := bb_ BK297 hb; replace BK298 := bb_ BK298 hb; replace HB := hs_ HB hb; clear hb hbox hg; have hnb43 := NB301_286.out; have hnc43 := NB286_301.out; have hnb44 := NB301_297.out; have hnc44 := NB297_301.out; have hnb45 := NB301_298.out; have hnc45 := NB298_301.out; obtain ⟨hcz46_0, hcz46_1, hfz46_0, hfz46_1⟩ := cz2_ BK301))
        have n0_ : Aside0 (((w42.setCell ⟨gb301, 0, none⟩ (.int .i64 t299)).setCell ⟨gb301, 1, none⟩ (.int .i64 t300)).heap[gb286]? = some (.cells #[.int .i64 a0_0, .slice A0_1 l0_1.length c0_1] 24 (0, 0))) := ⟨bk_ BK286⟩
        have n1_ : Aside0 (((w42.setCell ⟨gb301, 0, none⟩ (.int .i64 t299)).setCell ⟨gb301, 1, none⟩ (.int .i64 t300)).heap[gb297]? = some (.cells #[.int .i64 t287, .int .i64 t288, .int .i64 t289, .int .i64 t290, .int .i64 t291, .int .i64 t292, .bool t293, .bool t294] 26 (0, 0))) := ⟨bk_ BK297⟩
        have n2_ : Aside0 (((w42.setCell ⟨gb301, 0, none⟩ (.int .i64 t299)).setCell ⟨gb301, 1, none⟩ (.int .i64 t300)).heap[gb298]? = some (.cells #[.int .i64 t295, .int .i64 t296] 28 (0, 0))) := ⟨bk_ BK298⟩
        have n3_ : Aside0 (((w42.setCell ⟨gb301, 0, none⟩ (.int .i64 t299)).setCell ⟨gb301, 1, none⟩ (.int .i64 t300)).heap[gb301]? = some (.cells #[.int .i64 t299, .int .i64 t300] 28 (0, 0))) := ⟨bk_ BK301⟩
        have n4_ : Aside0 (Below w.heap.size w ((w42.setCell ⟨gb301, 0, none⟩ (.int .i64 t299)).setCell ⟨gb301, 1, none⟩ (.int .i64 t300))) := ⟨bw_ HB⟩
        (try clear BK286)
        (try clear BK297)
        (try clear BK298)
        (try clear BK301)
        (try clear HB)
        generalize ((w42.setCell ⟨gb301, 0, none⟩ (.int .i64 t299)).setCell ⟨gb301, 1, none⟩ (.int .i64 t300)) = w47 at n0_ n1_ n2_ n3_ n4_ ⊢
        have BK286 := n0_
        have BK297 := n1_
        have BK298 := n2_
        have BK301 := n3_
        have HB := n4_
        clear n0_ n1_ n2_ n3_ n4_
        have n0_ := Aside0.mk (blk_drew BK286.out)
        have n1_ := Aside0.mk (blk_drew BK297.out)
        have n2_ := Aside0.mk (blk_drew BK298.out)
        have n3_ := Aside0.mk (blk_drew BK301.out)
        have n4_ := Aside0.mk (below_drew1 HB.out)
        clear BK286
        clear BK297
        clear BK298
        clear BK301
        clear HB
        have BK286 := n0_
        have BK297 := n1_
        have BK298 := n2_
        have BK301 := n3_
        have HB := n4_
        clear n0_ n1_ n2_ n3_ n4_
        refine start_ (n := 13) (S := fun w' => w'.cell? ⟨gb298, 0, none⟩ = some (.int .i64 t295) ∧ w'.cell? ⟨gb298, 1, none⟩ = some (.int .i64 t296) ∧ w'.cell? ⟨gb297, 0, none⟩ = some (.int .i64 t287) ∧ w'.cell? ⟨gb297, 1, none⟩ = some (.int .i64 t288) ∧ w'.cell? ⟨gb297, 2, none⟩ = some (.int .i64 t289) ∧ w'.cell? ⟨gb297, 3, none⟩ = some (.int .i64 t290) ∧ w'.cell? ⟨gb297, 4, none⟩ = some (.int .i64 t291) ∧ w'.cell? ⟨gb297, 5, none⟩ = some (.int .i64 t292) ∧ w'.cell? ⟨gb297, 6, none⟩ = some (.bool t293) ∧ w'.cell? ⟨gb297, 7, none⟩ = some (.bool t294) ∧ w'.cell? ⟨gb286, 0, none⟩ = some (.int .i64 a0_0) ∧ w'.cell? ⟨gb286, 1, none⟩ = some (.slice A0_1 l0_1.length c0_1)) (ds := []) #[false, false, false, false, false, false, false, false, false, false, false, false, false] (by kernel_rfl) rfl rfl ⟨(blk_cell BK298.out 0).trans rfl, (blk_cell BK298.out 1).trans rfl, (blk_cell BK297.out 0).trans rfl, (blk_cell BK297.out 1).trans rfl, (blk_cell BK297.out 2).trans rfl, (blk_cell BK297.out 3).trans rfl, (blk_cell BK297.out 4).trans rfl, (blk_cell BK297.out 5).trans rfl, (blk_cell BK297.out 6).trans rfl, (blk_cell BK297.out 7).trans rfl, (blk_cell BK286.out 0).trans rfl, (blk_cell BK286.out 1).trans rfl⟩ (fun hHeld => ?_); refine with_tabW linkhouselaw7_EffectsMatchSpec.tab5 linkhouselaw7_EffectsMatchSpec.bits5 (fun HT_ HW_ => ?_)
        generalize w47.drew = w48 at BK286 BK297 BK298 BK301 HB hHeld ⊢
        refine pure_ (i := 0) (N := some 27) (v := ?_) (a' := ?_) #[true, false, false, false, false, false, false, false, false, false, false, false, false] rfl rfl (any_of HT_.out (by kernel_rfl)) (fun _ _ _ h => h) (Or.inl ⟨by rfl, ?_⟩) ?_ ?_
        rotate_left
        · intro w'
          go_simp
          with_reducible rfl
        rotate_left
        · simp only [Act.put, List.setIfInBounds_toArray, List.set_cons_zero, List.set_cons_succ, i64_w, i32_w]
          rfl
        refine take_ (i := 1) (N := some 28) (v := ?_) (a' := ?_) #[true, true, false, false, false, false, false, false, false, false, false, false, false] rfl rfl (take_ofW HT_.out HW_.out (by kernel_rfl)) (fun _ _ _ h => h) (Or.inl ⟨by rfl, ?_⟩) hHeld ?_ ?_
        rotate_left
        · rintro w' ⟨s0, s1, s2, s3, s4, s5, s6, s7, s8, s9, s10, s11⟩
          go_simp
          with_reducible rfl
        rotate_left
        · simp only [Act.put, List.setIfInBounds_toArray, List.set_cons_zero, List.set_cons_succ, i64_w, i32_w]
          rfl
        refine pure_ (i := 2) (N := some 29) (v := ?_) (a' := ?_) #[true, true, true, false, false, false, false, false, false, false, false, false, false] rfl rfl (any_of HT_.out (by kernel_rfl)) (fun _ _ _ h => h) (Or.inl ⟨by rfl, ?_⟩) ?_ ?_
        rotate_left
        · intro w'
          go_simp
          with_reducible rfl
        rotate_left
        · simp only [Act.put, List.setIfInBounds_toArray, List.set_cons_zero, List.set_cons_succ, i64_w, i32_w]
          rfl
        refine pure_ (i := 3) (N := some 30) (v := ?_) (a' := ?_) #[true, true, true, true, false, false, false, false, false, false, false, false, false] rfl rfl (any_of HT_.out (by kernel_rfl)) (fun _ _ _ h => h) (Or.inl ⟨by rfl, ?_⟩) ?_ ?_
        rotate_left
        · intro w'
          go_simp
          with_reducible rfl
        rotate_left
        · simp only [Act.put, List.setIfInBounds_toArray, List.set_cons_zero, List.set_cons_succ, i64_w, i32_w]
          rfl
        refine take_ (i := 4) (N := some 31) (v := ?_) (a' := ?_) #[true, true, true, true, true, false, false, false, false, false, false, false, false] rfl rfl (take_ofW HT_.out HW_.out (by kernel_rfl)) (fun _ _ _ h => h) (Or.inl ⟨by rfl, ?_⟩) hHeld ?_ ?_
        rotate_left
        · rintro w' ⟨s0, s1, s2, s3, s4, s5, s6, s7, s8, s9, s10, s11⟩
          go_simp
          with_reducible rfl
        rotate_left
        · simp only [Act.put, List.setIfInBounds_toArray, List.set_cons_zero, List.set_cons_succ, i64_w, i32_w]
          rfl
        refine take_ (i := 5) (N := some 32) (v := ?_) (a' := ?_) #[true, true, true, true, true, true, false, false, false, false, false, false, false] rfl rfl (take_ofW HT_.out HW_.out (by kernel_rfl)) (fun _ _ _ h => h) (Or.inl ⟨by rfl, ?_⟩) hHeld ?_ ?_
        rotate_left
        · rintro w' ⟨s0, s1, s2, s3, s4, s5, s6, s7, s8, s9, s10, s11⟩
          go_simp
          with_reducible rfl
        rotate_left
        · simp only [Act.put, List.setIfInBounds_toArray, List.set_cons_zero, List.set_cons_succ, i64_w, i32_w]
          rfl
        refine one_ (i := 6) (N := some 33) #[true, true, true, true, true, true, true, false, false, false, false, false, false] rfl rfl (one_of HT_.out (by kernel_rfl)) (by decide) (fun K hK => ?_)
        refine goes_ Try.func14 (by kernel_rfl) rfl #[.agg #[.int .i64 a0_0, .slice A0_1 l0_1.length c0_1]] (by rfl) rfl rfl ar_ ?_
        with_reducible refine (linkhouseref7_Effect.calls k a0_0 _ _ l0_1 t302 t303 t304 t305 t306 t307 t308 t309 _ ?side1 ?side2 A6.out).mono ?_
        (case side1 => exact cb_ HR0_1 HB)
        (case side2 => exact HC0_1.out)
        rintro e w49 ⟨rfl, hb⟩
        refine ⟨_, rfl, ?_⟩
        have n0_ := Aside0.mk (blk_below (g := gb286) (o := .cells #[.int .i64 a0_0, .slice A0_1 l0_1.length c0_1] 24 (0, 0)) (bk_ BK286) hb)
        have n1_ := Aside0.mk (blk_below (g := gb297) (o := .cells #[.int .i64 t287, .int .i64 t288, .int .i64 t289, .int .i64 t290, .int .i64 t291, .int .i64 t292, .bool t293, .bool t294] 26 (0, 0)) (bk_ BK297) hb)
        have n2_ := Aside0.mk (blk_below (g := gb298) (o := .cells #[.int .i64 t295, .int .i64 t296] 28 (0, 0)) (bk_ BK298) hb)
        have n3_ := Aside0.mk (blk_below (g := gb301) (o := .cells #[.int .i64 t299, .int .i64 t300] 28 (0, 0)) (bk_ BK301) hb)
        have n4_ := Aside0.mk (below_step (bw_ HB) hb)
        clear BK286
        clear BK297
        clear BK298
        clear BK301
        clear HB
        have BK286 := n0_
        have BK297 := n1_
        have BK298 := n2_
        have BK301 := n3_
        have HB := n4_
        clear n0_ n1_ n2_ n3_ n4_
        (try clear hb)
        (try clear hb2)
        (try clear hk)
        (try clear hi)
        refine hK.out _ _ ⟨(blk_cell BK298.out 0).trans rfl, (blk_cell BK298.out 1).trans rfl, (blk_cell BK297.out 0).trans rfl, (blk_cell BK297.out 1).trans rfl, (blk_cell BK297.out 2).trans rfl, (blk_cell BK297.out 3).trans rfl, (blk_cell BK297.out 4).trans rfl, (blk_cell BK297.out 5).trans rfl, (blk_cell BK297.out 6).trans rfl, (blk_cell BK297.out 7).trans rfl, (blk_cell BK286.out 0).trans rfl, (blk_cell BK286.out 1).trans rfl⟩ (fun hHeld => ?_)
        clear hK K
        refine norm_ (a' := ?_) ?_ ?_
        rotate_left
        · show Act.put _ (some 33) _ = _
          simp only [Act.put, List.setIfInBounds_toArray, List.set_cons_zero, List.set_cons_succ, i64_w, i32_w]
          rfl
        refine pure_ (i := 7) (N := some 34) (v := ?_) (a' := ?_) #[true, true, true, true, true, true, true, true, false, false, false, false, false] rfl rfl (any_of HT_.out (by kernel_rfl)) (fun _ _ _ h => h) (Or.inl ⟨by rfl, ?_⟩) ?_ ?_
        rotate_left
        · intro w'
          go_simp
          with_reducible rfl
        rotate_left
        · simp only [Act.put, List.setIfInBounds_toArray, List.set_cons_zero, List.set_cons_succ, i64_w, i32_w]
          rfl
        refine pure_ (i := 8) (N := some 35) (v := ?_) (a' := ?_) #[true, true, true, true, true, true, true, true, true, false, false, false, false] rfl rfl (any_of HT_.out (by kernel_rfl)) (fun _ _ _ h => h) (Or.inl ⟨by rfl, ?_⟩) ?_ ?_
        rotate_left
        · intro w'
          go_simp
          with_reducible rfl
        rotate_left
        · simp only [Act.put, List.setIfInBounds_toArray, List.set_cons_zero, List.set_cons_succ, i64_w, i32_w]
          rfl
        refine pure_ (i := 9) (N := some 36) (v := ?_) (a' := ?_) #[true, true, true, true, true, true, true, true, true, true, false, false, false] rfl rfl (any_of HT_.out (by kernel_rfl)) (fun _ _ _ h => h) (Or.inl ⟨by rfl, ?_⟩) ?_ ?_
        rotate_left
        · intro w'
          go_simp
          with_reducible rfl
        rotate_left
        · simp only [Act.put, List.setIfInBounds_toArray, List.set_cons_zero, List.set_cons_succ, i64_w, i32_w]
          rfl
        refine pure_ (i := 10) (N := some 37) (v := undef) (a' := ?_) #[true, true, true, true, true, true, true, true, true, true, true, false, false] rfl rfl (any_of HT_.out (by kernel_rfl)) (fun _ _ _ h => h) (Or.inr ⟨by rfl, rfl⟩) ?_ ?_
        rotate_left
        · simp only [Act.put, List.setIfInBounds_toArray, List.set_cons_zero, List.set_cons_succ, i64_w, i32_w]
          rfl
        refine pure_ (i := 11) (N := some 38) (v := ?_) (a' := ?_) #[true, true, true, true, true, true, true, true, true, true, true, true, false] rfl rfl (any_of HT_.out (by kernel_rfl)) (fun _ _ _ h => h) (Or.inl ⟨by rfl, ?_⟩) ?_ ?_
        rotate_left
        · intro w'
          go_simp
          with_reducible rfl
        rotate_left
        · simp only [Act.put, List.setIfInBounds_toArray, List.set_cons_zero, List.set_cons_succ, i64_w, i32_w]
          rfl
        refine pure_ (i := 12) (N := some 2) (v := ?_) (a' := ?_) #[true, true, true, true, true, true, true, true, true, true, true, true, true] rfl rfl (any_of HT_.out (by kernel_rfl)) (fun _ _ _ h => h) (Or.inl ⟨by rfl, ?_⟩) ?_ ?_
        rotate_left
        · intro w'
          go_simp
          with_reducible rfl
        rotate_left
        · simp only [Act.put, List.setIfInBounds_toArray, List.set_cons_zero, List.set_cons_succ, i64_w, i32_w]
          rfl
        refine done_ (done_of HT_.out (by kernel_rfl)) ?_
        try go_wp2
        go_ret
        exact ⟨id_, bw_ HB⟩
    · rw [if_neg c5] at H
      have c5b0 : (t295 == 0) = false := beq_eq_false_iff_ne.mpr c5
      have c5b1 : (t295 != 0) = true := bne_iff_ne.mpr c5
      obtain rfl := Option.some.inj H
      go_enter Try.func3, Try.ntmps3
      try go_wp2_with (first | ((with_reducible refine gate_dst (N := 1) rfl ?_); refine bx_ (N := 1) (cs := #[.int .i64 a0_0, .slice A0_1 l0_1.length c0_1]) (t := 24) ?_; intro gb286 hg w50 hbox hb; have BK286 := Aside0.mk hbox; have GW286 := bs_ HB hg; have GE286 := bs_ HB hg; replace HB := hs_ HB hb; clear hb hbox hg; obtain ⟨hcz51_0, hcz51_1, hfz51_0, hfz51_1⟩ := cz2_ BK286) | ((with_reducible refine gate_callee (f := 11) rfl ?_); refine goesL_ (some 8) rfl rfl Try.func11 (by kernel_rfl) rfl #[.agg #[.int .i64 a0_0, .slice A0_1 l0_1.length c0_1]] rfl ar_ ?_; (with_reducible refine (effects_Of.calls k a0_0 _ _ l0_1 t287 t288 t289 t290 t291 t292 t293 t294 t295 t296 _ ?side1 ?side2 A2.out).mono ?_); (case side1 => exact cb_ HR0_1 HB); (case side2 => exact HC0_1.out); rintro e w52 ⟨rfl, hb⟩; refine ⟨_, rfl, ?_⟩; replace BK286 := bb_ BK286 hb; replace HB := hs_ HB hb; (try clear hb); (try clear hb2); (try clear hk); (try clear hi)) | ((with_reducible refine gate_dst (N := 3) rfl ?_); refine bx_ (N := 3) (cs := #[.int .i64 0, .int .i64 0, .int .i64 0, .int .i64 0, .int .i64 0, .int .i64 0, .bool false, .bool false]) (t := 26) ?_; intro gb297 hg w53 hbox hb; have BK297 := Aside0.mk hbox; have GW297 := bs_ HB hg; have GE297 := bs_ HB hg; have NB286_297 := nl_ BK286 hg; have NB297_286 := ng_ BK286 hg; replace BK286 := bb_ BK286 hb; replace HB := hs_ HB hb; clear hb hbox hg) | ((with_reducible refine gate_dst (N := 4) rfl ?_); refine bx_ (N := 4) (cs := #[.int .i64 0, .int .i64 0]) (t := 28) ?_; intro gb298 hg w54 hbox hb; have BK298 := Aside0.mk hbox; have GW298 := bs_ HB hg; have GE298 := bs_ HB hg; have NB286_298 := nl_ BK286 hg; have NB298_286 := ng_ BK286 hg; have NB297_298 := nl_ BK297 hg; have NB298_297 := ng_ BK297 hg; replace BK286 := bb_ BK286 hb; replace BK297 := bb_ BK297 hb; replace HB := hs_ HB hb; clear hb hbox hg; have hnb55 := NB297_286.out; have hnc55 := NB286_297.out; have hnb56 := NB297_298.out; have hnc56 := NB298_297.out; obtain ⟨hcz57_0, hcz57_1, hcz57_2, hcz57_3, hcz57_4, hcz57_5, hcz57_6, hcz57_7, hfz57_0, hfz57_1, hfz57_2, hfz57_3, hfz57_4, hfz57_5, hfz57_6, hfz57_7⟩ := cz8_ BK297; have hnb58 := NB298_286.out; have hnc58 := NB286_298.out; obtain ⟨hcz59_0, hcz59_1, hfz59_0, hfz59_1⟩ := cz2_ BK298; obtain ⟨hcz60_0, hcz60_1, hfz60_0, hfz60_1⟩ := cz2_ BK286) | ((with_reducible refine gate_callee (f := 12) rfl ?_); refine goesL_ (some 12) rfl rfl Try.func12 (by kernel_rfl) rfl #[.agg #[.int .i64 a0_0, .slice A0_1 l0_1.length c0_1]] rfl ar_ ?_; (with_reducible refine (linkhouseref7_InsFault.calls k a0_0 _ _ l0_1 t299 t300 _ ?side1 ?side2 A3.out).mono ?_); (case side1 => exact cb_ HR0_1 HB); (case side2 => exact HC0_1.out); rintro e w61 ⟨rfl, hb⟩; refine ⟨_, rfl, ?_⟩; replace BK286 := bb_ BK286 hb; replace BK297 := bo_ (o' := .cells #[.int .i64 t287, .int .i64 t288, .int .i64 t289, .int .i64 t290, .int .i64 t291, .int .i64 t292, .bool t293, .bool t294] 26 (0, 0)) BK297 hb; replace BK298 := bo_ (o' := .cells #[.int .i64 t295, .int .i64 t296] 28 (0, 0)) BK298 hb; replace HB := hs_ HB hb; (try clear hb); (try clear hb2); (try clear hk); (try clear hi)) | ((with_reducible refine gate_dst (N := 5) rfl ?_); refine bx_ (N := 5) (cs := #[.int .i64 0, .int .i64 0]) (t := 28) ?_; intro gb301 hg w62 hbox hb; have BK301 := Aside0.mk hbox; have GW301 := bs_ HB hg; have GE301 := bs_ HB hg; have NB286_301 := nl_ BK286 hg; have NB301_286 := ng_ BK286 hg; have NB297_301 := nl_ BK297 hg; have NB301_297 := ng_ BK297 hg; have NB298_301 := nl_ BK298 hg; have NB301_298 := ng_ BK298 hg; replace BK286 := bb_ BK286 hb; replace BK297 := bb_ BK297 hb; replace BK298 := bb_ BK298 hb; replace HB := hs_ HB hb; clear hb hbox hg; have hnb63 := NB301_286.out; have hnc63 := NB286_301.out; have hnb64 := NB301_297.out; have hnc64 := NB297_301.out; have hnb65 := NB301_298.out; have hnc65 := NB298_301.out; obtain ⟨hcz66_0, hcz66_1, hfz66_0, hfz66_1⟩ := cz2_ BK301))
      have n0_ : Aside0 (((w62.setCell ⟨gb301, 0, none⟩ (.int .i64 t299)).setCell ⟨gb301, 1, none⟩ (.int .i64 t300)).heap[gb286]? = some (.cells #[.int .i64 a0_0, .slice A0_1 l0_1.length c0_1] 24 (0, 0))) := ⟨bk_ BK286⟩
      have n1_ : Aside0 (((w62.setCell ⟨gb301, 0, none⟩ (.int .i64 t299)).setCell ⟨gb301, 1, none⟩ (.int .i64 t300)).heap[gb297]? = some (.cells #[.int .i64 t287, .int .i64 t288, .int .i64 t289, .int .i64 t290, .int .i64 t291, .int .i64 t292, .bool t293, .bool t294] 26 (0, 0))) := ⟨bk_ BK297⟩
      have n2_ : Aside0 (((w62.setCell ⟨gb301, 0, none⟩ (.int .i64 t299)).setCell ⟨gb301, 1, none⟩ (.int .i64 t300)).heap[gb298]? = some (.cells #[.int .i64 t295, .int .i64 t296] 28 (0, 0))) := ⟨bk_ BK298⟩
      have n3_ : Aside0 (((w62.setCell ⟨gb301, 0, none⟩ (.int .i64 t299)).setCell ⟨gb301, 1, none⟩ (.int .i64 t300)).heap[gb301]? = some (.cells #[.int .i64 t299, .int .i64 t300] 28 (0, 0))) := ⟨bk_ BK301⟩
      have n4_ : Aside0 (Below w.heap.size w ((w62.setCell ⟨gb301, 0, none⟩ (.int .i64 t299)).setCell ⟨gb301, 1, none⟩ (.int .i64 t300))) := ⟨bw_ HB⟩
      (try clear BK286)
      (try clear BK297)
      (try clear BK298)
      (try clear BK301)
      (try clear HB)
      generalize ((w62.setCell ⟨gb301, 0, none⟩ (.int .i64 t299)).setCell ⟨gb301, 1, none⟩ (.int .i64 t300)) = w67 at n0_ n1_ n2_ n3_ n4_ ⊢
      have BK286 := n0_
      have BK297 := n1_
      have BK298 := n2_
      have BK301 := n3_
      have HB := n4_
      clear n0_ n1_ n2_ n3_ n4_
      have n0_ := Aside0.mk (blk_drew BK286.out)
      have n1_ := Aside0.mk (blk_drew BK297.out)
      have n2_ := Aside0.mk (blk_drew BK298.out)
      have n3_ := Aside0.mk (blk_drew BK301.out)
      have n4_ := Aside0.mk (below_drew1 HB.out)
      clear BK286
      clear BK297
      clear BK298
      clear BK301
      clear HB
      have BK286 := n0_
      have BK297 := n1_
      have BK298 := n2_
      have BK301 := n3_
      have HB := n4_
      clear n0_ n1_ n2_ n3_ n4_
      refine start_ (n := 13) (S := fun w' => w'.cell? ⟨gb298, 0, none⟩ = some (.int .i64 t295) ∧ w'.cell? ⟨gb298, 1, none⟩ = some (.int .i64 t296)) (ds := []) #[false, false, false, false, false, false, false, false, false, false, false, false, false] (by kernel_rfl) rfl rfl ⟨(blk_cell BK298.out 0).trans rfl, (blk_cell BK298.out 1).trans rfl⟩ (fun hHeld => ?_); refine with_tabW linkhouselaw7_EffectsMatchSpec.tab5 linkhouselaw7_EffectsMatchSpec.bits5 (fun HT_ HW_ => ?_)
      generalize w67.drew = w68 at BK286 BK297 BK298 BK301 HB hHeld ⊢
      refine pure_ (i := 0) (N := some 27) (v := ?_) (a' := ?_) #[true, false, false, false, false, false, false, false, false, false, false, false, false] rfl rfl (any_of HT_.out (by kernel_rfl)) (fun _ _ _ h => h) (Or.inl ⟨by rfl, ?_⟩) ?_ ?_
      rotate_left
      · intro w'
        go_simp
        with_reducible rfl
      rotate_left
      · simp only [Act.put, List.setIfInBounds_toArray, List.set_cons_zero, List.set_cons_succ, i64_w, i32_w]
        rfl
      refine take_ (i := 1) (N := some 28) (v := ?_) (a' := ?_) #[true, true, false, false, false, false, false, false, false, false, false, false, false] rfl rfl (take_ofW HT_.out HW_.out (by kernel_rfl)) (fun _ _ _ h => h) (Or.inl ⟨by rfl, ?_⟩) hHeld ?_ ?_
      rotate_left
      · rintro w' ⟨s0, s1⟩
        go_simp
        with_reducible rfl
      rotate_left
      · simp only [Act.put, List.setIfInBounds_toArray, List.set_cons_zero, List.set_cons_succ, i64_w, i32_w]
        rfl
      refine pure_ (i := 2) (N := some 29) (v := ?_) (a' := ?_) #[true, true, true, false, false, false, false, false, false, false, false, false, false] rfl rfl (any_of HT_.out (by kernel_rfl)) (fun _ _ _ h => h) (Or.inl ⟨by rfl, ?_⟩) ?_ ?_
      rotate_left
      · intro w'
        go_simp
        with_reducible rfl
      rotate_left
      · simp only [Act.put, List.setIfInBounds_toArray, List.set_cons_zero, List.set_cons_succ, i64_w, i32_w]
        rfl
      refine pure_ (i := 3) (N := some 30) (v := ?_) (a' := ?_) #[true, true, true, true, false, false, false, false, false, false, false, false, false] rfl rfl (any_of HT_.out (by kernel_rfl)) (fun _ _ _ h => h) (Or.inl ⟨by rfl, ?_⟩) ?_ ?_
      rotate_left
      · intro w'
        go_simp
        with_reducible rfl
      rotate_left
      · simp only [Act.put, List.setIfInBounds_toArray, List.set_cons_zero, List.set_cons_succ, i64_w, i32_w]
        rfl
      refine pure_ (i := 4) (N := some 31) (v := undef) (a' := ?_) #[true, true, true, true, true, false, false, false, false, false, false, false, false] rfl rfl (any_of HT_.out (by kernel_rfl)) (fun _ _ _ h => h) (Or.inr ⟨by rfl, rfl⟩) ?_ ?_
      rotate_left
      · simp only [Act.put, List.setIfInBounds_toArray, List.set_cons_zero, List.set_cons_succ, i64_w, i32_w]
        rfl
      refine pure_ (i := 5) (N := some 32) (v := undef) (a' := ?_) #[true, true, true, true, true, true, false, false, false, false, false, false, false] rfl rfl (any_of HT_.out (by kernel_rfl)) (fun _ _ _ h => h) (Or.inr ⟨by rfl, rfl⟩) ?_ ?_
      rotate_left
      · simp only [Act.put, List.setIfInBounds_toArray, List.set_cons_zero, List.set_cons_succ, i64_w, i32_w]
        rfl
      refine pure_ (i := 6) (N := some 33) (v := undef) (a' := ?_) #[true, true, true, true, true, true, true, false, false, false, false, false, false] rfl rfl (any_of HT_.out (by kernel_rfl)) (fun _ _ _ h => h) (Or.inr ⟨by rfl, rfl⟩) ?_ ?_
      rotate_left
      · simp only [Act.put, List.setIfInBounds_toArray, List.set_cons_zero, List.set_cons_succ, i64_w, i32_w]
        rfl
      refine pure_ (i := 7) (N := some 34) (v := undef) (a' := ?_) #[true, true, true, true, true, true, true, true, false, false, false, false, false] rfl rfl (any_of HT_.out (by kernel_rfl)) (fun _ _ _ h => h) (Or.inr ⟨by rfl, rfl⟩) ?_ ?_
      rotate_left
      · simp only [Act.put, List.setIfInBounds_toArray, List.set_cons_zero, List.set_cons_succ, i64_w, i32_w]
        rfl
      refine pure_ (i := 8) (N := some 35) (v := ?_) (a' := ?_) #[true, true, true, true, true, true, true, true, true, false, false, false, false] rfl rfl (any_of HT_.out (by kernel_rfl)) (fun _ _ _ h => h) (Or.inl ⟨by rfl, ?_⟩) ?_ ?_
      rotate_left
      · intro w'
        go_simp
        with_reducible rfl
      rotate_left
      · simp only [Act.put, List.setIfInBounds_toArray, List.set_cons_zero, List.set_cons_succ, i64_w, i32_w]
        rfl
      refine pure_ (i := 9) (N := some 36) (v := ?_) (a' := ?_) #[true, true, true, true, true, true, true, true, true, true, false, false, false] rfl rfl (any_of HT_.out (by kernel_rfl)) (fun _ _ _ h => h) (Or.inl ⟨by rfl, ?_⟩) ?_ ?_
      rotate_left
      · intro w'
        go_simp
        with_reducible rfl
      rotate_left
      · simp only [Act.put, List.setIfInBounds_toArray, List.set_cons_zero, List.set_cons_succ, i64_w, i32_w]
        rfl
      refine pure_ (i := 10) (N := some 37) (v := undef) (a' := ?_) #[true, true, true, true, true, true, true, true, true, true, true, false, false] rfl rfl (any_of HT_.out (by kernel_rfl)) (fun _ _ _ h => h) (Or.inr ⟨by rfl, rfl⟩) ?_ ?_
      rotate_left
      · simp only [Act.put, List.setIfInBounds_toArray, List.set_cons_zero, List.set_cons_succ, i64_w, i32_w]
        rfl
      refine pure_ (i := 11) (N := some 38) (v := ?_) (a' := ?_) #[true, true, true, true, true, true, true, true, true, true, true, true, false] rfl rfl (any_of HT_.out (by kernel_rfl)) (fun _ _ _ h => h) (Or.inl ⟨by rfl, ?_⟩) ?_ ?_
      rotate_left
      · intro w'
        go_simp
        with_reducible rfl
      rotate_left
      · simp only [Act.put, List.setIfInBounds_toArray, List.set_cons_zero, List.set_cons_succ, i64_w, i32_w]
        rfl
      refine pure_ (i := 12) (N := some 2) (v := ?_) (a' := ?_) #[true, true, true, true, true, true, true, true, true, true, true, true, true] rfl rfl (any_of HT_.out (by kernel_rfl)) (fun _ _ _ h => h) (Or.inl ⟨by rfl, ?_⟩) ?_ ?_
      rotate_left
      · intro w'
        go_simp
        with_reducible rfl
      rotate_left
      · simp only [Act.put, List.setIfInBounds_toArray, List.set_cons_zero, List.set_cons_succ, i64_w, i32_w]
        rfl
      refine done_ (done_of HT_.out (by kernel_rfl)) ?_
      try go_wp2
      go_ret
      exact ⟨id_, bw_ HB⟩
  · rw [if_neg c4] at H
    have c4b0 : (t299 == 0) = false := beq_eq_false_iff_ne.mpr c4
    have c4b1 : (t299 != 0) = true := bne_iff_ne.mpr c4
    by_cases c69 : (t295 == t299 && (t296 == t300)) = true
    · rw [if_pos c69] at H
      have c69b0 : (t295 == t299 && (t296 == t300)) = true := c69
      (try (have c69b1 : decide (t295 = t299 && (t296 == t300)) = true := by simpa using c69))
      (try (have c69b2 : (t295 == t299 && (t296 == t300)) = true := by simpa using c69))
      clear c69
      by_cases c70 : (t287 == 0 && (t288 == 0 && (t289 == 0 && (t290 == 0 && (t291 == 0 && (t292 == 0 && (!t293 && (!t294)))))))) = true
      · rw [if_pos c70] at H
        have c70b0 : (t287 == 0 && (t288 == 0 && (t289 == 0 && (t290 == 0 && (t291 == 0 && (t292 == 0 && (!t293 && (!t294)))))))) = true := c70
        (try (have c70b1 : decide (t287 = 0 && (t288 == 0 && (t289 == 0 && (t290 == 0 && (t291 == 0 && (t292 == 0 && (!t293 && (!t294)))))))) = true := by simpa using c70))
        (try (have c70b2 : (t287 == 0 && (t288 == 0 && (t289 == 0 && (t290 == 0 && (t291 == 0 && (t292 == 0 && (!t293 && (!t294)))))))) = true := by simpa using c70))
        clear c70
        replace H := Option.bind_eq_some_iff.mp H
        obtain ⟨t311, A710, H⟩ := H
        replace H : (some t311) = some r := H
        have A71 := Aside0.mk A710
        clear A710
        obtain rfl := Option.some.inj H
        go_enter Try.func3, Try.ntmps3
        go_wp2_with (first | ((with_reducible refine gate_dst (N := 1) rfl ?_); refine bx_ (N := 1) (cs := #[.int .i64 a0_0, .slice A0_1 l0_1.length c0_1]) (t := 24) ?_; intro gb286 hg w72 hbox hb; have BK286 := Aside0.mk hbox; have GW286 := bs_ HB hg; have GE286 := bs_ HB hg; replace HB := hs_ HB hb; clear hb hbox hg; obtain ⟨hcz73_0, hcz73_1, hfz73_0, hfz73_1⟩ := cz2_ BK286) | ((with_reducible refine gate_callee (f := 11) rfl ?_); refine goesL_ (some 8) rfl rfl Try.func11 (by kernel_rfl) rfl #[.agg #[.int .i64 a0_0, .slice A0_1 l0_1.length c0_1]] rfl ar_ ?_; (with_reducible refine (effects_Of.calls k a0_0 _ _ l0_1 t287 t288 t289 t290 t291 t292 t293 t294 t295 t296 _ ?side1 ?side2 A2.out).mono ?_); (case side1 => exact cb_ HR0_1 HB); (case side2 => exact HC0_1.out); rintro e w74 ⟨rfl, hb⟩; refine ⟨_, rfl, ?_⟩; replace BK286 := bb_ BK286 hb; replace HB := hs_ HB hb; (try clear hb); (try clear hb2); (try clear hk); (try clear hi)) | ((with_reducible refine gate_dst (N := 3) rfl ?_); refine bx_ (N := 3) (cs := #[.int .i64 0, .int .i64 0, .int .i64 0, .int .i64 0, .int .i64 0, .int .i64 0, .bool false, .bool false]) (t := 26) ?_; intro gb297 hg w75 hbox hb; have BK297 := Aside0.mk hbox; have GW297 := bs_ HB hg; have GE297 := bs_ HB hg; have NB286_297 := nl_ BK286 hg; have NB297_286 := ng_ BK286 hg; replace BK286 := bb_ BK286 hb; replace HB := hs_ HB hb; clear hb hbox hg) | ((with_reducible refine gate_dst (N := 4) rfl ?_); refine bx_ (N := 4) (cs := #[.int .i64 0, .int .i64 0]) (t := 28) ?_; intro gb298 hg w76 hbox hb; have BK298 := Aside0.mk hbox; have GW298 := bs_ HB hg; have GE298 := bs_ HB hg; have NB286_298 := nl_ BK286 hg; have NB298_286 := ng_ BK286 hg; have NB297_298 := nl_ BK297 hg; have NB298_297 := ng_ BK297 hg; replace BK286 := bb_ BK286 hb; replace BK297 := bb_ BK297 hb; replace HB := hs_ HB hb; clear hb hbox hg; have hnb77 := NB297_286.out; have hnc77 := NB286_297.out; have hnb78 := NB297_298.out; have hnc78 := NB298_297.out; obtain ⟨hcz79_0, hcz79_1, hcz79_2, hcz79_3, hcz79_4, hcz79_5, hcz79_6, hcz79_7, hfz79_0, hfz79_1, hfz79_2, hfz79_3, hfz79_4, hfz79_5, hfz79_6, hfz79_7⟩ := cz8_ BK297; have hnb80 := NB298_286.out; have hnc80 := NB286_298.out; obtain ⟨hcz81_0, hcz81_1, hfz81_0, hfz81_1⟩ := cz2_ BK298; obtain ⟨hcz82_0, hcz82_1, hfz82_0, hfz82_1⟩ := cz2_ BK286) | ((with_reducible refine gate_callee (f := 12) rfl ?_); refine goesL_ (some 12) rfl rfl Try.func12 (by kernel_rfl) rfl #[.agg #[.int .i64 a0_0, .slice A0_1 l0_1.length c0_1]] rfl ar_ ?_; (with_reducible refine (linkhouseref7_InsFault.calls k a0_0 _ _ l0_1 t299 t300 _ ?side1 ?side2 A3.out).mono ?_); (case side1 => exact cb_ HR0_1 HB); (case side2 => exact HC0_1.out); rintro e w83 ⟨rfl, hb⟩; refine ⟨_, rfl, ?_⟩; replace BK286 := bb_ BK286 hb; replace BK297 := bo_ (o' := .cells #[.int .i64 t287, .int .i64 t288, .int .i64 t289, .int .i64 t290, .int .i64 t291, .int .i64 t292, .bool t293, .bool t294] 26 (0, 0)) BK297 hb; replace BK298 := bo_ (o' := .cells #[.int .i64 t295, .int .i64 t296] 28 (0, 0)) BK298 hb; replace HB := hs_ HB hb; (try clear hb); (try clear hb2); (try clear hk); (try clear hi)) | ((with_reducible refine gate_dst (N := 5) rfl ?_); refine bx_ (N := 5) (cs := #[.int .i64 0, .int .i64 0]) (t := 28) ?_; intro gb301 hg w84 hbox hb; have BK301 := Aside0.mk hbox; have GW301 := bs_ HB hg; have GE301 := bs_ HB hg; have NB286_301 := nl_ BK286 hg; have NB301_286 := ng_ BK286 hg; have NB297_301 := nl_ BK297 hg; have NB301_297 := ng_ BK297 hg; have NB298_301 := nl_ BK298 hg; have NB301_298 := ng_ BK298 hg; replace BK286 := bb_ BK286 hb; replace BK297 := bb_ BK297 hb; replace BK298 := bb_ BK298 hb; replace HB := hs_ HB hb; clear hb hbox hg; have hnb85 := NB301_286.out; have hnc85 := NB286_301.out; have hnb86 := NB301_297.out; have hnc86 := NB297_301.out; have hnb87 := NB301_298.out; have hnc87 := NB298_301.out; obtain ⟨hcz88_0, hcz88_1, hfz88_0, hfz88_1⟩ := cz2_ BK301; obtain ⟨hcz89_0, hcz89_1, hfz89_0, hfz89_1⟩ := cz2_ BK298; obtain ⟨hcz90_0, hcz90_1, hcz90_2, hcz90_3, hcz90_4, hcz90_5, hcz90_6, hcz90_7, hfz90_0, hfz90_1, hfz90_2, hfz90_3, hfz90_4, hfz90_5, hfz90_6, hfz90_7⟩ := cz8_ BK297) | (go_at_call 13; (with_reducible refine (linkhouselaw7_added.calls k  t311 _ A71.out).mono ?_); rintro e w91 ⟨rfl, hb⟩; replace BK286 := bb_ BK286 hb; replace BK297 := bb_ BK297 hb; replace BK298 := bb_ BK298 hb; replace BK301 := bo_ (o' := .cells #[.int .i64 t299, .int .i64 t300] 28 (0, 0)) BK301 hb; replace HB := hs_ HB hb; (try clear hb); (try clear hb2); (try clear hk); (try clear hi)))
        go_ret
        exact ⟨id_, bw_ HB⟩
      · rw [if_neg c70] at H
        have c70b0 : (t287 == 0 && (t288 == 0 && (t289 == 0 && (t290 == 0 && (t291 == 0 && (t292 == 0 && (!t293 && (!t294)))))))) = false := by simpa using c70
        (try (have c70b1 : decide (t287 = 0 && (t288 == 0 && (t289 == 0 && (t290 == 0 && (t291 == 0 && (t292 == 0 && (!t293 && (!t294)))))))) = false := by simpa using c70))
        (try (have c70b2 : (t287 == 0 && (t288 == 0 && (t289 == 0 && (t290 == 0 && (t291 == 0 && (t292 == 0 && (!t293 && (!t294)))))))) = false := by simpa using c70))
        (try (have c70b3 : ¬ (t287 = 0 && (t288 == 0 && (t289 == 0 && (t290 == 0 && (t291 == 0 && (t292 == 0 && (!t293 && (!t294)))))))) := by simpa using c70))
        clear c70
        obtain rfl := Option.some.inj H
        go_enter Try.func3, Try.ntmps3
        go_wp2_with (first | ((with_reducible refine gate_dst (N := 1) rfl ?_); refine bx_ (N := 1) (cs := #[.int .i64 a0_0, .slice A0_1 l0_1.length c0_1]) (t := 24) ?_; intro gb286 hg w92 hbox hb; have BK286 := Aside0.mk hbox; have GW286 := bs_ HB hg; have GE286 := bs_ HB hg; replace HB := hs_ HB hb; clear hb hbox hg; obtain ⟨hcz93_0, hcz93_1, hfz93_0, hfz93_1⟩ := cz2_ BK286) | ((with_reducible refine gate_callee (f := 11) rfl ?_); refine goesL_ (some 8) rfl rfl Try.func11 (by kernel_rfl) rfl #[.agg #[.int .i64 a0_0, .slice A0_1 l0_1.length c0_1]] rfl ar_ ?_; (with_reducible refine (effects_Of.calls k a0_0 _ _ l0_1 t287 t288 t289 t290 t291 t292 t293 t294 t295 t296 _ ?side1 ?side2 A2.out).mono ?_); (case side1 => exact cb_ HR0_1 HB); (case side2 => exact HC0_1.out); rintro e w94 ⟨rfl, hb⟩; refine ⟨_, rfl, ?_⟩; replace BK286 := bb_ BK286 hb; replace HB := hs_ HB hb; (try clear hb); (try clear hb2); (try clear hk); (try clear hi)) | ((with_reducible refine gate_dst (N := 3) rfl ?_); refine bx_ (N := 3) (cs := #[.int .i64 0, .int .i64 0, .int .i64 0, .int .i64 0, .int .i64 0, .int .i64 0, .bool false, .bool false]) (t := 26) ?_; intro gb297 hg w95 hbox hb; have BK297 := Aside0.mk hbox; have GW297 := bs_ HB hg; have GE297 := bs_ HB hg; have NB286_297 := nl_ BK286 hg; have NB297_286 := ng_ BK286 hg; replace BK286 := bb_ BK286 hb; replace HB := hs_ HB hb; clear hb hbox hg) | ((with_reducible refine gate_dst (N := 4) rfl ?_); refine bx_ (N := 4) (cs := #[.int .i64 0, .int .i64 0]) (t := 28) ?_; intro gb298 hg w96 hbox hb; have BK298 := Aside0.mk hbox; have GW298 := bs_ HB hg; have GE298 := bs_ HB hg; have NB286_298 := nl_ BK286 hg; have NB298_286 := ng_ BK286 hg; have NB297_298 := nl_ BK297 hg; have NB298_297 := ng_ BK297 hg; replace BK286 := bb_ BK286 hb; replace BK297 := bb_ BK297 hb; replace HB := hs_ HB hb; clear hb hbox hg; have hnb97 := NB297_286.out; have hnc97 := NB286_297.out; have hnb98 := NB297_298.out; have hnc98 := NB298_297.out; obtain ⟨hcz99_0, hcz99_1, hcz99_2, hcz99_3, hcz99_4, hcz99_5, hcz99_6, hcz99_7, hfz99_0, hfz99_1, hfz99_2, hfz99_3, hfz99_4, hfz99_5, hfz99_6, hfz99_7⟩ := cz8_ BK297; have hnb100 := NB298_286.out; have hnc100 := NB286_298.out; obtain ⟨hcz101_0, hcz101_1, hfz101_0, hfz101_1⟩ := cz2_ BK298; obtain ⟨hcz102_0, hcz102_1, hfz102_0, hfz102_1⟩ := cz2_ BK286) | ((with_reducible refine gate_callee (f := 12) rfl ?_); refine goesL_ (some 12) rfl rfl Try.func12 (by kernel_rfl) rfl #[.agg #[.int .i64 a0_0, .slice A0_1 l0_1.length c0_1]] rfl ar_ ?_; (with_reducible refine (linkhouseref7_InsFault.calls k a0_0 _ _ l0_1 t299 t300 _ ?side1 ?side2 A3.out).mono ?_); (case side1 => exact cb_ HR0_1 HB); (case side2 => exact HC0_1.out); rintro e w103 ⟨rfl, hb⟩; refine ⟨_, rfl, ?_⟩; replace BK286 := bb_ BK286 hb; replace BK297 := bo_ (o' := .cells #[.int .i64 t287, .int .i64 t288, .int .i64 t289, .int .i64 t290, .int .i64 t291, .int .i64 t292, .bool t293, .bool t294] 26 (0, 0)) BK297 hb; replace BK298 := bo_ (o' := .cells #[.int .i64 t295, .int .i64 t296] 28 (0, 0)) BK298 hb; replace HB := hs_ HB hb; (try clear hb); (try clear hb2); (try clear hk); (try clear hi)) | ((with_reducible refine gate_dst (N := 5) rfl ?_); refine bx_ (N := 5) (cs := #[.int .i64 0, .int .i64 0]) (t := 28) ?_; intro gb301 hg w104 hbox hb; have BK301 := Aside0.mk hbox; have GW301 := bs_ HB hg; have GE301 := bs_ HB hg; have NB286_301 := nl_ BK286 hg; have NB301_286 := ng_ BK286 hg; have NB297_301 := nl_ BK297 hg; have NB301_297 := ng_ BK297 hg; have NB298_301 := nl_ BK298 hg; have NB301_298 := ng_ BK298 hg; replace BK286 := bb_ BK286 hb; replace BK297 := bb_ BK297 hb; replace BK298 := bb_ BK298 hb; replace HB := hs_ HB hb; clear hb hbox hg; have hnb105 := NB301_286.out; have hnc105 := NB286_301.out; have hnb106 := NB301_297.out; have hnc106 := NB297_301.out; have hnb107 := NB301_298.out; have hnc107 := NB298_301.out; obtain ⟨hcz108_0, hcz108_1, hfz108_0, hfz108_1⟩ := cz2_ BK301; obtain ⟨hcz109_0, hcz109_1, hfz109_0, hfz109_1⟩ := cz2_ BK298; obtain ⟨hcz110_0, hcz110_1, hcz110_2, hcz110_3, hcz110_4, hcz110_5, hcz110_6, hcz110_7, hfz110_0, hfz110_1, hfz110_2, hfz110_3, hfz110_4, hfz110_5, hfz110_6, hfz110_7⟩ := cz8_ BK297))
        go_ret
        exact ⟨id_, bw_ HB⟩
    · rw [if_neg c69] at H
      have c69b0 : (t295 == t299 && (t296 == t300)) = false := by simpa using c69
      (try (have c69b1 : decide (t295 = t299 && (t296 == t300)) = false := by simpa using c69))
      (try (have c69b2 : (t295 == t299 && (t296 == t300)) = false := by simpa using c69))
      (try (have c69b3 : ¬ (t295 = t299 && (t296 == t300)) := by simpa using c69))
      clear c69
      obtain rfl := Option.some.inj H
      go_enter Try.func3, Try.ntmps3
      go_wp2_with (first | ((with_reducible refine gate_dst (N := 1) rfl ?_); refine bx_ (N := 1) (cs := #[.int .i64 a0_0, .slice A0_1 l0_1.length c0_1]) (t := 24) ?_; intro gb286 hg w111 hbox hb; have BK286 := Aside0.mk hbox; have GW286 := bs_ HB hg; have GE286 := bs_ HB hg; replace HB := hs_ HB hb; clear hb hbox hg; obtain ⟨hcz112_0, hcz112_1, hfz112_0, hfz112_1⟩ := cz2_ BK286) | ((with_reducible refine gate_callee (f := 11) rfl ?_); refine goesL_ (some 8) rfl rfl Try.func11 (by kernel_rfl) rfl #[.agg #[.int .i64 a0_0, .slice A0_1 l0_1.length c0_1]] rfl ar_ ?_; (with_reducible refine (effects_Of.calls k a0_0 _ _ l0_1 t287 t288 t289 t290 t291 t292 t293 t294 t295 t296 _ ?side1 ?side2 A2.out).mono ?_); (case side1 => exact cb_ HR0_1 HB); (case side2 => exact HC0_1.out); rintro e w113 ⟨rfl, hb⟩; refine ⟨_, rfl, ?_⟩; replace BK286 := bb_ BK286 hb; replace HB := hs_ HB hb; (try clear hb); (try clear hb2); (try clear hk); (try clear hi)) | ((with_reducible refine gate_dst (N := 3) rfl ?_); refine bx_ (N := 3) (cs := #[.int .i64 0, .int .i64 0, .int .i64 0, .int .i64 0, .int .i64 0, .int .i64 0, .bool false, .bool false]) (t := 26) ?_; intro gb297 hg w114 hbox hb; have BK297 := Aside0.mk hbox; have GW297 := bs_ HB hg; have GE297 := bs_ HB hg; have NB286_297 := nl_ BK286 hg; have NB297_286 := ng_ BK286 hg; replace BK286 := bb_ BK286 hb; replace HB := hs_ HB hb; clear hb hbox hg) | ((with_reducible refine gate_dst (N := 4) rfl ?_); refine bx_ (N := 4) (cs := #[.int .i64 0, .int .i64 0]) (t := 28) ?_; intro gb298 hg w115 hbox hb; have BK298 := Aside0.mk hbox; have GW298 := bs_ HB hg; have GE298 := bs_ HB hg; have NB286_298 := nl_ BK286 hg; have NB298_286 := ng_ BK286 hg; have NB297_298 := nl_ BK297 hg; have NB298_297 := ng_ BK297 hg; replace BK286 := bb_ BK286 hb; replace BK297 := bb_ BK297 hb; replace HB := hs_ HB hb; clear hb hbox hg; have hnb116 := NB297_286.out; have hnc116 := NB286_297.out; have hnb117 := NB297_298.out; have hnc117 := NB298_297.out; obtain ⟨hcz118_0, hcz118_1, hcz118_2, hcz118_3, hcz118_4, hcz118_5, hcz118_6, hcz118_7, hfz118_0, hfz118_1, hfz118_2, hfz118_3, hfz118_4, hfz118_5, hfz118_6, hfz118_7⟩ := cz8_ BK297; have hnb119 := NB298_286.out; have hnc119 := NB286_298.out; obtain ⟨hcz120_0, hcz120_1, hfz120_0, hfz120_1⟩ := cz2_ BK298; obtain ⟨hcz121_0, hcz121_1, hfz121_0, hfz121_1⟩ := cz2_ BK286) | ((with_reducible refine gate_callee (f := 12) rfl ?_); refine goesL_ (some 12) rfl rfl Try.func12 (by kernel_rfl) rfl #[.agg #[.int .i64 a0_0, .slice A0_1 l0_1.length c0_1]] rfl ar_ ?_; (with_reducible refine (linkhouseref7_InsFault.calls k a0_0 _ _ l0_1 t299 t300 _ ?side1 ?side2 A3.out).mono ?_); (case side1 => exact cb_ HR0_1 HB); (case side2 => exact HC0_1.out); rintro e w122 ⟨rfl, hb⟩; refine ⟨_, rfl, ?_⟩; replace BK286 := bb_ BK286 hb; replace BK297 := bo_ (o' := .cells #[.int .i64 t287, .int .i64 t288, .int .i64 t289, .int .i64 t290, .int .i64 t291, .int .i64 t292, .bool t293, .bool t294] 26 (0, 0)) BK297 hb; replace BK298 := bo_ (o' := .cells #[.int .i64 t295, .int .i64 t296] 28 (0, 0)) BK298 hb; replace HB := hs_ HB hb; (try clear hb); (try clear hb2); (try clear hk); (try clear hi)) | ((with_reducible refine gate_dst (N := 5) rfl ?_); refine bx_ (N := 5) (cs := #[.int .i64 0, .int .i64 0]) (t := 28) ?_; intro gb301 hg w123 hbox hb; have BK301 := Aside0.mk hbox; have GW301 := bs_ HB hg; have GE301 := bs_ HB hg; have NB286_301 := nl_ BK286 hg; have NB301_286 := ng_ BK286 hg; have NB297_301 := nl_ BK297 hg; have NB301_297 := ng_ BK297 hg; have NB298_301 := nl_ BK298 hg; have NB301_298 := ng_ BK298 hg; replace BK286 := bb_ BK286 hb; replace BK297 := bb_ BK297 hb; replace BK298 := bb_ BK298 hb; replace HB := hs_ HB hb; clear hb hbox hg; have hnb124 := NB301_286.out; have hnc124 := NB286_301.out; have hnb125 := NB301_297.out; have hnc125 := NB297_301.out; have hnb126 := NB301_298.out; have hnc126 := NB298_301.out; obtain ⟨hcz127_0, hcz127_1, hfz127_0, hfz127_1⟩ := cz2_ BK301; obtain ⟨hcz128_0, hcz128_1, hfz128_0, hfz128_1⟩ := cz2_ BK298))
      go_ret
      exact ⟨id_, bw_ HB⟩

/-! ### linkhouseref7_Flow: function 41 -/
set_option maxRecDepth 100000 in
mutual
def linkhouseref7_Flow.j0 : Nat → Int → Bool → Option (Int)
  | 0, _, _ => none
  | k + 1, x0, x14 => if x14 = true then (some 2) else ((linkhouseref7_In.f x0 29 36).bind fun t312 => (if t312 = true then (some 3) else (if x0 = 40 then (linkhouseref7_Flow.j1 k x0 true) else (linkhouseref7_Flow.j1 k x0 (x0 == 41)))))
def linkhouseref7_Flow.j1 : Nat → Int → Bool → Option (Int)
  | 0, _, _ => none
  | k + 1, x0, x22 => if x22 = true then (some 4) else (if x0 = 42 then (some 5) else (if x0 = 37 then (some 6) else (if x0 = 38 then (some 6) else (if x0 = 4 then (some 6) else (some 1)))))
end
set_option maxRecDepth 100000 in
def linkhouseref7_Flow.f (k : Nat) (a0 : Int) : Option (Int) := if a0 = 0 then (some 7) else (if a0 = 27 then (linkhouseref7_Flow.j0 k a0 true) else (if a0 = 28 then (linkhouseref7_Flow.j0 k a0 true) else (linkhouseref7_Flow.j0 k a0 (a0 == 39))))
set_option maxRecDepth 100000 in
theorem linkhouseref7_Flow.mono_l : ∀ k, (∀ y0 y1, LeO (linkhouseref7_Flow.j0 k y0 y1) (linkhouseref7_Flow.j0 (k + 1) y0 y1)) ∧ (∀ y0 y1, LeO (linkhouseref7_Flow.j1 k y0 y1) (linkhouseref7_Flow.j1 (k + 1) y0 y1))
  | 0 => ⟨fun _ _ r h => by simp [linkhouseref7_Flow.j0] at h, fun _ _ r h => by simp [linkhouseref7_Flow.j1] at h⟩
  | k + 1 => by
    obtain ⟨ih0, ih1⟩ := linkhouseref7_Flow.mono_l k
    refine ⟨?_, ?_⟩
    · intro y0 y1
      unfold linkhouseref7_Flow.j0
      repeat' first
      | (with_reducible exact ih0 _ _)
      | (with_reducible exact ih1 _ _)
      | (with_reducible exact LeO.refl _)
      | (with_reducible exact LeO.none _)
      | (with_reducible refine LeO.ite ?_ ?_)
      | (with_reducible refine LeO.bind ?_ (fun _ => ?_))
      | exact ih0 _ _
      | exact ih1 _ _
      | exact LeO.none _
      | refine LeO.ite ?_ ?_
      | refine LeO.bind ?_ (fun _ => ?_)
    · intro y0 y1
      unfold linkhouseref7_Flow.j1
      repeat' first
      | (with_reducible exact ih0 _ _)
      | (with_reducible exact ih1 _ _)
      | (with_reducible exact LeO.refl _)
      | (with_reducible exact LeO.none _)
      | (with_reducible refine LeO.ite ?_ ?_)
      | (with_reducible refine LeO.bind ?_ (fun _ => ?_))
      | exact ih0 _ _
      | exact ih1 _ _
      | exact LeO.none _
      | refine LeO.ite ?_ ?_
      | refine LeO.bind ?_ (fun _ => ?_)
set_option maxRecDepth 100000 in
theorem linkhouseref7_Flow.mono : ∀ a0 k, LeO (linkhouseref7_Flow.f k a0) (linkhouseref7_Flow.f (k + 1) a0) := by
  intro a0 k
  obtain ⟨ih0, ih1⟩ := linkhouseref7_Flow.mono_l k
  unfold linkhouseref7_Flow.f
  repeat' first
      | (with_reducible exact ih0 _ _)
      | (with_reducible exact ih1 _ _)
      | (with_reducible exact LeO.refl _)
      | (with_reducible exact LeO.none _)
      | (with_reducible refine LeO.ite ?_ ?_)
      | (with_reducible refine LeO.bind ?_ (fun _ => ?_))
      | exact ih0 _ _
      | exact ih1 _ _
      | exact LeO.none _
      | refine LeO.ite ?_ ?_
      | refine LeO.bind ?_ (fun _ => ?_)
set_option maxHeartbeats 8000000 in
set_option maxRecDepth 100000 in
theorem linkhouseref7_Flow.calls (k : Nat) (a0 : Int) (r : Int) (w : World) (h : linkhouseref7_Flow.f k a0 = some r) :
    Calls Try.prog 41 #[.int .i64 a0] w fun e w' => e = .returned (.int .i64 r) ∧ Drawn0 w w' := by
  have H : (if a0 = 0 then (some 7) else (if a0 = 27 then (linkhouseref7_Flow.j0 k a0 true) else (if a0 = 28 then (linkhouseref7_Flow.j0 k a0 true) else (linkhouseref7_Flow.j0 k a0 (a0 == 39))))) = some r := h
  clear h
  by_cases c2 : a0 = 0
  · rw [if_pos c2] at H
    have c2b0 : (a0 == 0) = true := beq_iff_eq.mpr c2
    have c2b1 : (a0 != 0) = false := bne_eq_false_iff_eq.mpr c2
    clear c2
    obtain rfl := Option.some.inj H
    go_enter Try.func41, Try.ntmps41
    go_wp2
    go_ret
    exact ⟨by first | rfl | (simp; done) | (simp [*]; done), by repeat (first | exact Drawn0.refl _ | apply Drawn0.step)⟩
  · rw [if_neg c2] at H
    have c2b0 : (a0 == 0) = false := beq_eq_false_iff_ne.mpr c2
    have c2b1 : (a0 != 0) = true := bne_iff_ne.mpr c2
    have HC3 := Aside0.mk H
    clear H
    go_enter Try.func41, Try.ntmps41
    go_upto_region 3 with (fail)
    go_cut [14] (fun v14 wc => ∃ (kq : Nat) (x14_2 : Bool), v14 = .bool x14_2 ∧ Aside0 (linkhouseref7_Flow.j0 kq a0 x14_2 = some r) ∧ Aside0 (kq ≤ k) ∧ Drawn0 w wc)
    case first =>
      have H := HC3.out
      clear HC3
      by_cases c4 : a0 = 27
      · rw [if_pos c4] at H
        have c4b0 : (a0 == 27) = true := beq_iff_eq.mpr c4
        have c4b1 : (a0 != 27) = false := bne_eq_false_iff_eq.mpr c4
        clear c4
        (first | rw [c4b0] | (simp only [i64_w, i32_w]; rw [c4b0]) | skip)
        have H' := Aside0.mk H
        clear H
        go_wp2
        go_meet
        case rel => exact ⟨_, (true), rs_, H', le_, by repeat (first | exact Drawn0.refl _ | apply Drawn0.step)⟩
      · rw [if_neg c4] at H
        have c4b0 : (a0 == 27) = false := beq_eq_false_iff_ne.mpr c4
        have c4b1 : (a0 != 27) = true := bne_iff_ne.mpr c4
        (first | rw [c4b0] | (simp only [i64_w, i32_w]; rw [c4b0]) | skip)
        by_cases c5 : a0 = 28
        · rw [if_pos c5] at H
          have c5b0 : (a0 == 28) = true := beq_iff_eq.mpr c5
          have c5b1 : (a0 != 28) = false := bne_eq_false_iff_eq.mpr c5
          clear c5
          have H' := Aside0.mk H
          clear H
          go_wp2
          go_meet
          case rel => exact ⟨_, (true), rs_, H', le_, by repeat (first | exact Drawn0.refl _ | apply Drawn0.step)⟩
        · rw [if_neg c5] at H
          have c5b0 : (a0 == 28) = false := beq_eq_false_iff_ne.mpr c5
          have c5b1 : (a0 != 28) = true := bne_iff_ne.mpr c5
          have H' := Aside0.mk H
          clear H
          go_wp2
          go_meet
          case rel => exact ⟨_, ((a0 == 39)), rs_, H', le_, by repeat (first | exact Drawn0.refl _ | apply Drawn0.step)⟩
    case rest =>
      clear HC3
      (try clear c2); (try clear c2b0); (try clear c2b1); (try clear p2); (try clear c4); (try clear c4b0); (try clear c4b1); (try clear c5); (try clear c5b0); (try clear c5b1)
      obtain ⟨kq, x14_2, rfl, HA, HJ2, ⟨mc2, rfl⟩⟩ := hcut
      cases kq with
      | zero => exact absurd HA.out (by simp [linkhouseref7_Flow.j0])
      | succ kj2 =>
        have H := HA.out
        clear HA
        simp only [linkhouseref7_Flow.j0] at H
        by_cases c6 : x14_2 = true
        · subst c6
          have H1 : (some 2) = some r := by rw [if_pos rfl] at H; exact H
          clear H
          have H := H1
          clear H1
          obtain rfl := Option.some.inj H
          go_wp2
          go_ret
          exact ⟨by first | rfl | (simp; done) | (simp [*]; done), by repeat (first | exact Drawn0.refl _ | apply Drawn0.step)⟩
        · replace c6 := Bool.eq_false_iff.mpr c6
          subst c6
          have H1 : ((linkhouseref7_In.f a0 29 36).bind fun t312 => (if t312 = true then (some 3) else (if a0 = 40 then (linkhouseref7_Flow.j1 kj2 a0 true) else (linkhouseref7_Flow.j1 kj2 a0 (a0 == 41))))) = some r := by rw [if_neg (show ¬ (false = true) by decide)] at H; exact H
          clear H
          have H := H1
          clear H1
          replace H := Option.bind_eq_some_iff.mp H
          obtain ⟨t312, A70, H⟩ := H
          replace H : (if t312 = true then (some 3) else (if a0 = 40 then (linkhouseref7_Flow.j1 kj2 a0 true) else (linkhouseref7_Flow.j1 kj2 a0 (a0 == 41)))) = some r := H
          have A7 := Aside0.mk A70
          clear A70
          by_cases c8 : t312 = true
          · subst c8
            have H1 : (some 3) = some r := by rw [if_pos rfl] at H; exact H
            clear H
            have H := H1
            clear H1
            obtain rfl := Option.some.inj H
            go_wp2_with (first | ((with_reducible refine gate_callee (f := 16) rfl ?_); refine goesL_ (some 16) rfl rfl Try.func16 (by kernel_rfl) rfl #[.int .i64 a0, .int .i64 29, .int .i64 36] rfl ar_ ?_; (with_reducible refine (linkhouseref7_In.calls a0 29 36 true _ A7.out).mono ?_); rintro e w' ⟨rfl, ⟨nd, rfl⟩⟩; refine ⟨_, rfl, ?_⟩))
            go_ret
            exact ⟨by first | rfl | (simp; done) | (simp [*]; done), by repeat (first | exact Drawn0.refl _ | apply Drawn0.step)⟩
          · replace c8 := Bool.eq_false_iff.mpr c8
            subst c8
            have H1 : (if a0 = 40 then (linkhouseref7_Flow.j1 kj2 a0 true) else (linkhouseref7_Flow.j1 kj2 a0 (a0 == 41))) = some r := by rw [if_neg (show ¬ (false = true) by decide)] at H; exact H
            clear H
            have H := H1
            clear H1
            have HC9 := Aside0.mk H
            clear H
            go_upto_region 7 with (first | ((with_reducible refine gate_callee (f := 16) rfl ?_); refine goesL_ (some 16) rfl rfl Try.func16 (by kernel_rfl) rfl #[.int .i64 a0, .int .i64 29, .int .i64 36] rfl ar_ ?_; (with_reducible refine (linkhouseref7_In.calls a0 29 36 false _ A7.out).mono ?_); rintro e w' ⟨rfl, ⟨nd, rfl⟩⟩; refine ⟨_, rfl, ?_⟩))
            (try simp only [Act.put, List.setIfInBounds_toArray, List.set_cons_zero, List.set_cons_succ])
            go_cut [22] (fun v22 wc => ∃ (kq : Nat) (x22_8 : Bool), v22 = .bool x22_8 ∧ Aside0 (linkhouseref7_Flow.j1 kq a0 x22_8 = some r) ∧ Aside0 (kq ≤ kj2) ∧ Drawn0 w wc)
            case first =>
              have H := HC9.out
              clear HC9
              by_cases c10 : a0 = 40
              · rw [if_pos c10] at H
                have c10b0 : (a0 == 40) = true := beq_iff_eq.mpr c10
                have c10b1 : (a0 != 40) = false := bne_eq_false_iff_eq.mpr c10
                clear c10
                (first | rw [c10b0] | (simp only [i64_w, i32_w]; rw [c10b0]) | skip)
                have H' := Aside0.mk H
                clear H
                go_wp2
                go_meet
                case rel => exact ⟨_, (true), rs_, H', ⟨by have := HJ2.out; first | omega | exact Nat.le_refl _⟩, by repeat (first | exact Drawn0.refl _ | apply Drawn0.step)⟩
              · rw [if_neg c10] at H
                have c10b0 : (a0 == 40) = false := beq_eq_false_iff_ne.mpr c10
                have c10b1 : (a0 != 40) = true := bne_iff_ne.mpr c10
                (first | rw [c10b0] | (simp only [i64_w, i32_w]; rw [c10b0]) | skip)
                have H' := Aside0.mk H
                clear H
                go_wp2
                go_meet
                case rel => exact ⟨_, ((a0 == 41)), rs_, H', ⟨by have := HJ2.out; first | omega | exact Nat.le_refl _⟩, by repeat (first | exact Drawn0.refl _ | apply Drawn0.step)⟩
            case rest =>
              clear HC9
              (try clear c1); (try clear c2); (try clear c2b0); (try clear c2b1); (try clear p2); (try clear c4); (try clear c4b0); (try clear c4b1); (try clear c5); (try clear c5b0); (try clear c5b1); (try clear c6); (try clear c8); (try clear c10); (try clear c10b0); (try clear c10b1); (try clear p2)
              obtain ⟨kq, x22_8, rfl, HA, HJ8, ⟨mc8, rfl⟩⟩ := hcut
              cases kq with
              | zero => exact absurd HA.out (by simp [linkhouseref7_Flow.j1])
              | succ kj8 =>
                have H := HA.out
                clear HA
                simp only [linkhouseref7_Flow.j1] at H
                by_cases c11 : x22_8 = true
                · subst c11
                  have H1 : (some 4) = some r := by rw [if_pos rfl] at H; exact H
                  clear H
                  have H := H1
                  clear H1
                  obtain rfl := Option.some.inj H
                  go_wp2
                  go_ret
                  exact ⟨by first | rfl | (simp; done) | (simp [*]; done), by repeat (first | exact Drawn0.refl _ | apply Drawn0.step)⟩
                · replace c11 := Bool.eq_false_iff.mpr c11
                  subst c11
                  have H1 : (if a0 = 42 then (some 5) else (if a0 = 37 then (some 6) else (if a0 = 38 then (some 6) else (if a0 = 4 then (some 6) else (some 1))))) = some r := by rw [if_neg (show ¬ (false = true) by decide)] at H; exact H
                  clear H
                  have H := H1
                  clear H1
                  by_cases c12 : a0 = 42
                  · rw [if_pos c12] at H
                    have c12b0 : (a0 == 42) = true := beq_iff_eq.mpr c12
                    have c12b1 : (a0 != 42) = false := bne_eq_false_iff_eq.mpr c12
                    clear c12
                    obtain rfl := Option.some.inj H
                    go_wp2
                    go_ret
                    exact ⟨by first | rfl | (simp; done) | (simp [*]; done), by repeat (first | exact Drawn0.refl _ | apply Drawn0.step)⟩
                  · rw [if_neg c12] at H
                    have c12b0 : (a0 == 42) = false := beq_eq_false_iff_ne.mpr c12
                    have c12b1 : (a0 != 42) = true := bne_iff_ne.mpr c12
                    by_cases c13 : a0 = 37
                    · rw [if_pos c13] at H
                      have c13b0 : (a0 == 37) = true := beq_iff_eq.mpr c13
                      have c13b1 : (a0 != 37) = false := bne_eq_false_iff_eq.mpr c13
                      clear c13
                      obtain rfl := Option.some.inj H
                      go_wp2
                      go_ret
                      exact ⟨by first | rfl | (simp; done) | (simp [*]; done), by repeat (first | exact Drawn0.refl _ | apply Drawn0.step)⟩
                    · rw [if_neg c13] at H
                      have c13b0 : (a0 == 37) = false := beq_eq_false_iff_ne.mpr c13
                      have c13b1 : (a0 != 37) = true := bne_iff_ne.mpr c13
                      by_cases c14 : a0 = 38
                      · rw [if_pos c14] at H
                        have c14b0 : (a0 == 38) = true := beq_iff_eq.mpr c14
                        have c14b1 : (a0 != 38) = false := bne_eq_false_iff_eq.mpr c14
                        clear c14
                        obtain rfl := Option.some.inj H
                        go_wp2
                        go_ret
                        exact ⟨by first | rfl | (simp; done) | (simp [*]; done), by repeat (first | exact Drawn0.refl _ | apply Drawn0.step)⟩
                      · rw [if_neg c14] at H
                        have c14b0 : (a0 == 38) = false := beq_eq_false_iff_ne.mpr c14
                        have c14b1 : (a0 != 38) = true := bne_iff_ne.mpr c14
                        by_cases c15 : a0 = 4
                        · rw [if_pos c15] at H
                          have c15b0 : (a0 == 4) = true := beq_iff_eq.mpr c15
                          have c15b1 : (a0 != 4) = false := bne_eq_false_iff_eq.mpr c15
                          clear c15
                          obtain rfl := Option.some.inj H
                          go_wp2
                          go_ret
                          exact ⟨by first | rfl | (simp; done) | (simp [*]; done), by repeat (first | exact Drawn0.refl _ | apply Drawn0.step)⟩
                        · rw [if_neg c15] at H
                          have c15b0 : (a0 == 4) = false := beq_eq_false_iff_ne.mpr c15
                          have c15b1 : (a0 != 4) = true := bne_iff_ne.mpr c15
                          obtain rfl := Option.some.inj H
                          go_wp2
                          go_ret
                          exact ⟨by first | rfl | (simp; done) | (simp [*]; done), by repeat (first | exact Drawn0.refl _ | apply Drawn0.step)⟩

end Go.Proofs.Ytaellapacoikaaa.PA
