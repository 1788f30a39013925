import Derived.Test.YtaellapacoikaaaU0
import Derived.Test.YtaellapacoikaaaUSBx0
import Derived.Test.YtaellapacoikaaaUSBx1
import Derived.Test.YtaellapacoikaaaUSBx4
import Derived.Test.YtaellapacoikaaaUSBx7
import Derived.Test.YtaellapacoikaaaUSBx8
namespace Go.Proofs.Ytaellapacoikaaa.PB
open Go.RowKit Go.Proofs.YtaellapacoikaaaW.PrintWords Go.Proofs.YtaellapacoikaaaW.PrintLast Go.Proofs.YtaellapacoikaaaW.PrintMore
attribute [local go_sem] max2_int min2_int max_two min_two max_three min_three max_four min_four   -- for this text's walks alone
set_option linter.unusedVariables false
set_option linter.unusedSimpArgs false

attribute [local go_sem high] eqA28
/-! ### linkhouselaw7_FlowDominatorsMatchSpec: function 5 -/
set_option maxRecDepth 100000 in
def linkhouselaw7_FlowDominatorsMatchSpec.l0 : Nat → List (S62) → Int → List Int → List Int → Int → Int → Int → Option (Bool)
 | 0, _, _, _, _, _, _, _ => none
 | k + 1, x0, x1, x5, x8, x9, x296000, x296001 => if x9 < (x0.length : Int) then ((linkhouseref7_Immediate.f k x0 x1 x9).bind fun t301 => (if x8.length < 17592186044416 then (linkhouselaw7_FlowDominatorsMatchSpec.l0 k x0 x1 x5 (x8 ++ [t301]) (wrap64 (x9 + 1)) x296000 x296001) else (none))) else (if x296000 = 0 then ((linkhouseref7_SameInts.f k x5 x8).bind fun t305 => (if t305 = true then ((linkhouselaw7_crossed.f k).bind fun t306 => (some t306)) else (some false))) else (some false))
set_option maxRecDepth 100000 in
def linkhouselaw7_FlowDominatorsMatchSpec.f (k : Nat) (l0 : List (S62)) (a1 : Int) : Option (Bool) := (flow_Dominators.f k l0 a1).bind fun bt290 => ((linkhouselaw7_fromFault.f k l0 a1).bind fun bt296 => (if bt296.1 = 0 then (if (l0.length : Int) > 9 then ((linkhouselaw7_crossed.f k).bind fun t300 => (some t300)) else (linkhouselaw7_FlowDominatorsMatchSpec.l0 k l0 a1 bt290.1 ([] : List Int) 0 bt290.2.1 bt290.2.2)) else (if (bt290.2.1 == bt296.1 && (bt290.2.2 == bt296.2)) = true then (if (bt290.1.length : Int) = 0 then ((linkhouselaw7_crossed.f k).bind fun t299 => (some t299)) else (some false)) else (some false))))
set_option maxRecDepth 100000 in
theorem linkhouselaw7_FlowDominatorsMatchSpec.mono_l : ∀ k, (∀ y0 y1 y2 y3 y4 y5 y6, LeO (linkhouselaw7_FlowDominatorsMatchSpec.l0 k y0 y1 y2 y3 y4 y5 y6) (linkhouselaw7_FlowDominatorsMatchSpec.l0 (k + 1) y0 y1 y2 y3 y4 y5 y6))
 | 0 => fun _ _ _ _ _ _ _ r h => by simp [linkhouselaw7_FlowDominatorsMatchSpec.l0] at h
 | k + 1 => by
  have ih0 := linkhouselaw7_FlowDominatorsMatchSpec.mono_l k
  ·
   intro y0 y1 y2 y3 y4 y5 y6
   unfold linkhouselaw7_FlowDominatorsMatchSpec.l0
   repeat' first
   | (with_reducible exact ih0 _ _ _ _ _ _ _)
   | (with_reducible exact flow_Dominators.mono _ _ _)
   | (with_reducible exact linkhouselaw7_crossed.mono _)
   | (with_reducible exact linkhouselaw7_fromFault.mono _ _ _)
   | (with_reducible exact linkhouseref7_Immediate.mono _ _ _ _)
   | (with_reducible exact linkhouseref7_SameInts.mono _ _ _)
   | (with_reducible exact LeO.refl _)
   | (with_reducible exact LeO.none _)
   | (with_reducible refine LeO.ite ?_ ?_)
   | (with_reducible refine LeO.bind ?_ (fun _ => ?_))
   | exact ih0 _ _ _ _ _ _ _
   | exact flow_Dominators.mono _ _ _
   | exact linkhouselaw7_crossed.mono _
   | exact linkhouselaw7_fromFault.mono _ _ _
   | exact linkhouseref7_Immediate.mono _ _ _ _
   | exact linkhouseref7_SameInts.mono _ _ _
   | exact LeO.none _
   | refine LeO.ite ?_ ?_
   | refine LeO.bind ?_ (fun _ => ?_)
set_option maxRecDepth 100000 in
theorem linkhouselaw7_FlowDominatorsMatchSpec.mono : ∀ a0 a1 k, LeO (linkhouselaw7_FlowDominatorsMatchSpec.f k a0 a1) (linkhouselaw7_FlowDominatorsMatchSpec.f (k + 1) a0 a1) := by
 intro a0 a1 k
 have ih0 := linkhouselaw7_FlowDominatorsMatchSpec.mono_l k
 unfold linkhouselaw7_FlowDominatorsMatchSpec.f
 repeat' first
   | (with_reducible exact ih0 _ _ _ _ _ _ _)
   | (with_reducible exact flow_Dominators.mono _ _ _)
   | (with_reducible exact linkhouselaw7_crossed.mono _)
   | (with_reducible exact linkhouselaw7_fromFault.mono _ _ _)
   | (with_reducible exact linkhouseref7_Immediate.mono _ _ _ _)
   | (with_reducible exact linkhouseref7_SameInts.mono _ _ _)
   | (with_reducible exact LeO.refl _)
   | (with_reducible exact LeO.none _)
   | (with_reducible refine LeO.ite ?_ ?_)
   | (with_reducible refine LeO.bind ?_ (fun _ => ?_))
   | exact ih0 _ _ _ _ _ _ _
   | exact flow_Dominators.mono _ _ _
   | exact linkhouselaw7_crossed.mono _
   | exact linkhouselaw7_fromFault.mono _ _ _
   | exact linkhouseref7_Immediate.mono _ _ _ _
   | exact linkhouseref7_SameInts.mono _ _ _
   | exact LeO.none _
   | refine LeO.ite ?_ ?_
   | refine LeO.bind ?_ (fun _ => ?_)
set_option maxHeartbeats 8000000 in
set_option maxRecDepth 100000 in
theorem linkhouselaw7_FlowDominatorsMatchSpec.calls (k : Nat) (A0 : Option Addr) (c0 : Nat) (l0 : List (S62)) (a1 : Int) (r : Bool) (w : World) (hr0 : Kd.C k62 w A0 l0.length l0) (hc0 : l0.length ≤ c0) (h : linkhouselaw7_FlowDominatorsMatchSpec.f k l0 a1 = some r) :
  Calls Try.prog 5 #[.slice A0 l0.length c0, .int .i64 a1] w fun e w' => e = .returned (.bool r) ∧ Below w.heap.size w w' := by
 have hu28 := Try.underlying28
 have HR0 := Aside0.mk hr0
 have HC0 := Aside0.mk hc0
 clear hr0 hc0
 have HB := Aside0.mk (Below.refl w.heap.size w)
 have H : ((flow_Dominators.f k l0 a1).bind fun bt290 => ((linkhouselaw7_fromFault.f k l0 a1).bind fun bt296 => (if bt296.1 = 0 then (if (l0.length : Int) > 9 then ((linkhouselaw7_crossed.f k).bind fun t300 => (some t300)) else (linkhouselaw7_FlowDominatorsMatchSpec.l0 k l0 a1 bt290.1 ([] : List Int) 0 bt290.2.1 bt290.2.2)) else (if (bt290.2.1 == bt296.1 && (bt290.2.2 == bt296.2)) = true then (if (bt290.1.length : Int) = 0 then ((linkhouselaw7_crossed.f k).bind fun t299 => (some t299)) else (some false)) else (some false))))) = some r := h
 clear h
 replace H := Option.bind_eq_some_iff.mp H
 obtain ⟨⟨t290, t293, t294⟩, A30, H⟩ := H
 replace H : ((linkhouselaw7_fromFault.f k l0 a1).bind fun bt296 => (if bt296.1 = 0 then (if (l0.length : Int) > 9 then ((linkhouselaw7_crossed.f k).bind fun t300 => (some t300)) else (linkhouselaw7_FlowDominatorsMatchSpec.l0 k l0 a1 t290 ([] : List Int) 0 t293 t294)) else (if (t293 == bt296.1 && (t294 == bt296.2)) = true then (if (t290.length : Int) = 0 then ((linkhouselaw7_crossed.f k).bind fun t299 => (some t299)) else (some false)) else (some false)))) = some r := H
 have A3 := Aside0.mk A30
 clear A30
 replace H := Option.bind_eq_some_iff.mp H
 obtain ⟨⟨t296, t297⟩, A40, H⟩ := H
 replace H : (if t296 = 0 then (if (l0.length : Int) > 9 then ((linkhouselaw7_crossed.f k).bind fun t300 => (some t300)) else (linkhouselaw7_FlowDominatorsMatchSpec.l0 k l0 a1 t290 ([] : List Int) 0 t293 t294)) else (if (t293 == t296 && (t294 == t297)) = true then (if (t290.length : Int) = 0 then ((linkhouselaw7_crossed.f k).bind fun t299 => (some t299)) else (some false)) else (some false))) = some r := H
 have A4 := Aside0.mk A40
 clear A40
 by_cases c5 : t296 = 0
 ·
  rw [if_pos c5] at H
  have c5b0 : (t296 == 0) = true := beq_iff_eq.mpr c5
  have c5b1 : (t296 != 0) = false := bne_eq_false_iff_eq.mpr c5
  clear c5
  by_cases c6 : (l0.length : Int) > 9
  ·
   rw [if_pos c6] at H
   have c6b0 : decide (9 < (l0.length : Int)) = true := decide_eq_true c6
   have c6b1 : decide (9 < l0.length) = true := decide_eq_true (by omega)
   clear c6
   replace H := Option.bind_eq_some_iff.mp H
   obtain ⟨t300, A70, H⟩ := H
   replace H : (some t300) = some r := H
   have A7 := Aside0.mk A70
   clear A70
   obtain rfl := Option.some.inj H
   go_enter Try.func5, Try.ntmps5
   go_wp2_with (first | ((with_reducible refine gate_callee (f := 19) rfl ?_); refine goesL_ (some 13) rfl rfl Try.func19 (by kernel_rfl) rfl #[.slice A0 l0.length c0, .int .i64 a1] rfl ar_ ?_; (with_reducible refine (flow_Dominators.calls k _ _ l0 a1 t290 t293 t294 _ ?side1 ?side2 A3.out).mono ?_); (case side1 => repeat (first | exact HR0.out | (with_reducible refine Kd.C_alloc ?_ _) | (with_reducible refine Kd.C_drewN ?_ _) | (with_reducible refine Kd.C_drew ?_))); (case side2 => exact HC0.out); rintro e w8 ⟨v291, rfl, ho0, hb⟩; refine ⟨_, rfl, ?_⟩; have n0_ := Aside0.mk (Kd.R_lower ho0 (below_size (bw_ HB))); have n1_ := Aside0.mk (below_step (bw_ HB) hb); clear HB; have HO292 := n0_; have HB := n1_; clear n0_ n1_; (try clear hb); (try clear hb2); (try clear hk); (try clear hi); (try clear ho0)) | ((with_reducible refine gate_dst (N := 6) rfl ?_); (try (refine gate_guard (by rfl) ?_; dsimp only)); refine bx_ (N := 6) (cs := #[.int .i64 0, .int .i64 0]) (t := 28) ?_; intro gb295 hg w9 hbox hb; have n0_ := Aside0.mk (Kd.R_below (by (with_reducible repeat (first | apply Kd.R_alloc | apply Kd.R_drewN | apply Kd.R_drew)); exact HO292.out) hb); have n1_ := Aside0.mk (below_step (bw_ HB) hb); have n2_ := Aside0.mk (hbox); have n3_ := Aside0.mk ((by rw [hg]; exact (below_size (bw_ HB)) : w.heap.size ≤ gb295)); have n4_ := Aside0.mk ((by rw [hg]; exact (below_size (bw_ HB)) : w.heap.size ≤ gb295)); clear HO292; clear HB; have HO292 := n0_; have HB := n1_; have BK295 := n2_; have GW295 := n3_; have GE295 := n4_; clear n0_ n1_ n2_ n3_ n4_; clear hb hbox hg; obtain ⟨hcz10_0, hcz10_1, hfz10_0, hfz10_1⟩ := cz2_ BK295) | ((with_reducible refine gate_callee (f := 20) rfl ?_); refine goesL_ (some 18) rfl rfl Try.func20 (by kernel_rfl) rfl #[.slice A0 l0.length c0, .int .i64 a1] rfl ar_ ?_; (with_reducible refine (linkhouselaw7_fromFault.calls k _ _ l0 a1 t296 t297 _ ?side1 ?side2 A4.out).mono ?_); (case side1 => exact cb_ HR0 HB); (case side2 => exact HC0.out); rintro e w11 ⟨rfl, hb⟩; refine ⟨_, rfl, ?_⟩; have n0_ := Aside0.mk (Kd.R_below (by (with_reducible repeat (first | apply Kd.R_alloc | apply Kd.R_drewN | apply Kd.R_drew)); exact (Kd.R_mono (Kd.R_far (p := ⟨gb295, 1, none⟩) (Kd.R_far (p := ⟨gb295, 0, none⟩) (Kd.R_types HO292.out BK295.out (by decide)) (fun _ hk => hk.2) (.int .i64 t293)) (fun _ hk => hk.2) (.int .i64 t294)) (fun _ h_ => h_.1))) hb); have n1_ := Aside0.mk (blk_below (g := gb295) (o := .cells #[.int .i64 t293, .int .i64 t294] 28 (0, 0)) (bk_ BK295) hb); have n2_ := Aside0.mk (below_step (bw_ HB) hb); clear HO292; clear BK295; clear HB; have HO292 := n0_; have BK295 := n1_; have HB := n2_; clear n0_ n1_ n2_; (try clear hb); (try clear hb2); (try clear hk); (try clear hi)) | ((with_reducible refine gate_dst (N := 7) rfl ?_); (try (refine gate_guard (by rfl) ?_; dsimp only)); refine bx_ (N := 7) (cs := #[.int .i64 0, .int .i64 0]) (t := 28) ?_; intro gb298 hg w12 hbox hb; have n0_ := Aside0.mk (Kd.R_below (by (with_reducible repeat (first | apply Kd.R_alloc | apply Kd.R_drewN | apply Kd.R_drew)); exact HO292.out) hb); have n1_ := Aside0.mk (blk_below (g := gb295) (o := .cells #[.int .i64 t293, .int .i64 t294] 28 (0, 0)) (bk_ BK295) hb); have n2_ := Aside0.mk (below_step (bw_ HB) hb); have n3_ := Aside0.mk (hbox); have n4_ := Aside0.mk ((by rw [hg]; exact (below_size (bw_ HB)) : w.heap.size ≤ gb298)); have n5_ := Aside0.mk ((by rw [hg]; exact (below_size (bw_ HB)) : w.heap.size ≤ gb298)); have n6_ := Aside0.mk ((by rw [hg]; exact Nat.ne_of_lt (blk_lt (g := gb295) (o := .cells #[.int .i64 t293, .int .i64 t294] 28 (0, 0)) (bk_ BK295)) : gb295 ≠ gb298)); have n7_ := Aside0.mk ((by rw [hg]; exact Nat.ne_of_gt (blk_lt (g := gb295) (o := .cells #[.int .i64 t293, .int .i64 t294] 28 (0, 0)) (bk_ BK295)) : gb298 ≠ gb295)); clear HO292; clear BK295; clear HB; have HO292 := n0_; have BK295 := n1_; have HB := n2_; have BK298 := n3_; have GW298 := n4_; have GE298 := n5_; have NB295_298 := n6_; have NB298_295 := n7_; clear n0_ n1_ n2_ n3_ n4_ n5_ n6_ n7_; clear hb hbox hg; have hnb13 := NB298_295.out; have hnc13 := NB295_298.out; obtain ⟨hcz14_0, hcz14_1, hfz14_0, hfz14_1⟩ := cz2_ BK298) | ((with_reducible refine gate_callee (f := 21) rfl ?_); refine goesL_ (some 36) rfl rfl Try.func21 (by kernel_rfl) rfl #[] rfl ar_ ?_; (with_reducible refine (linkhouselaw7_crossed.calls k  t300 _ A7.out).mono ?_); rintro e w15 ⟨rfl, hb⟩; refine ⟨_, rfl, ?_⟩; have n0_ := Aside0.mk (Kd.R_below (by (with_reducible repeat (first | apply Kd.R_alloc | apply Kd.R_drewN | apply Kd.R_drew)); exact (Kd.R_mono (Kd.R_far (p := ⟨gb298, 1, none⟩) (Kd.R_far (p := ⟨gb298, 0, none⟩) (Kd.R_types HO292.out BK298.out (by decide)) (fun _ hk => hk.2) (.int .i64 t296)) (fun _ hk => hk.2) (.int .i64 t297)) (fun _ h_ => h_.1))) hb); have n1_ := Aside0.mk (blk_below (g := gb295) (o := .cells #[.int .i64 t293, .int .i64 t294] 28 (0, 0)) (bk_ BK295) hb); have n2_ := Aside0.mk (blk_below (g := gb298) (o := .cells #[.int .i64 t296, .int .i64 t297] 28 (0, 0)) (bk_ BK298) hb); have n3_ := Aside0.mk (below_step (bw_ HB) hb); clear HO292; clear BK295; clear BK298; clear HB; have HO292 := n0_; have BK295 := n1_; have BK298 := n2_; have HB := n3_; clear n0_ n1_ n2_ n3_; (try clear hb); (try clear hb2); (try clear hk); (try clear hi)))
   go_ret
   exact ⟨id_, bw_ HB⟩
  ·
   rw [if_neg c6] at H
   have c6b0 : decide (9 < (l0.length : Int)) = false := decide_eq_false c6
   have c6b1 : decide (9 < l0.length) = false := decide_eq_false (by omega)
   clear c6
   have H' := Aside0.mk H
   clear H
   go_enter Try.func5, Try.ntmps5
   go_wp2_with (first | ((with_reducible refine gate_callee (f := 19) rfl ?_); refine goesL_ (some 13) rfl rfl Try.func19 (by kernel_rfl) rfl #[.slice A0 l0.length c0, .int .i64 a1] rfl ar_ ?_; (with_reducible refine (flow_Dominators.calls k _ _ l0 a1 t290 t293 t294 _ ?side1 ?side2 A3.out).mono ?_); (case side1 => repeat (first | exact HR0.out | (with_reducible refine Kd.C_alloc ?_ _) | (with_reducible refine Kd.C_drewN ?_ _) | (with_reducible refine Kd.C_drew ?_))); (case side2 => exact HC0.out); rintro e w16 ⟨v291, rfl, ho0, hb⟩; refine ⟨_, rfl, ?_⟩; have n0_ := Aside0.mk (Kd.R_lower ho0 (below_size (bw_ HB))); have n1_ := Aside0.mk (below_step (bw_ HB) hb); clear HB; have HO292 := n0_; have HB := n1_; clear n0_ n1_; (try clear hb); (try clear hb2); (try clear hk); (try clear hi); (try clear ho0)) | ((with_reducible refine gate_dst (N := 6) rfl ?_); (try (refine gate_guard (by rfl) ?_; dsimp only)); refine bx_ (N := 6) (cs := #[.int .i64 0, .int .i64 0]) (t := 28) ?_; intro gb295 hg w17 hbox hb; have n0_ := Aside0.mk (Kd.R_below (by (with_reducible repeat (first | apply Kd.R_alloc | apply Kd.R_drewN | apply Kd.R_drew)); exact HO292.out) hb); have n1_ := Aside0.mk (below_step (bw_ HB) hb); have n2_ := Aside0.mk (hbox); have n3_ := Aside0.mk ((by rw [hg]; exact (below_size (bw_ HB)) : w.heap.size ≤ gb295)); have n4_ := Aside0.mk ((by rw [hg]; exact (below_size (bw_ HB)) : w.heap.size ≤ gb295)); clear HO292; clear HB; have HO292 := n0_; have HB := n1_; have BK295 := n2_; have GW295 := n3_; have GE295 := n4_; clear n0_ n1_ n2_ n3_ n4_; clear hb hbox hg; obtain ⟨hcz18_0, hcz18_1, hfz18_0, hfz18_1⟩ := cz2_ BK295) | ((with_reducible refine gate_callee (f := 20) rfl ?_); refine goesL_ (some 18) rfl rfl Try.func20 (by kernel_rfl) rfl #[.slice A0 l0.length c0, .int .i64 a1] rfl ar_ ?_; (with_reducible refine (linkhouselaw7_fromFault.calls k _ _ l0 a1 t296 t297 _ ?side1 ?side2 A4.out).mono ?_); (case side1 => exact cb_ HR0 HB); (case side2 => exact HC0.out); rintro e w19 ⟨rfl, hb⟩; refine ⟨_, rfl, ?_⟩; have n0_ := Aside0.mk (Kd.R_below (by (with_reducible repeat (first | apply Kd.R_alloc | apply Kd.R_drewN | apply Kd.R_drew)); exact (Kd.R_mono (Kd.R_far (p := ⟨gb295, 1, none⟩) (Kd.R_far (p := ⟨gb295, 0, none⟩) (Kd.R_types HO292.out BK295.out (by decide)) (fun _ hk => hk.2) (.int .i64 t293)) (fun _ hk => hk.2) (.int .i64 t294)) (fun _ h_ => h_.1))) hb); have n1_ := Aside0.mk (blk_below (g := gb295) (o := .cells #[.int .i64 t293, .int .i64 t294] 28 (0, 0)) (bk_ BK295) hb); have n2_ := Aside0.mk (below_step (bw_ HB) hb); clear HO292; clear BK295; clear HB; have HO292 := n0_; have BK295 := n1_; have HB := n2_; clear n0_ n1_ n2_; (try clear hb); (try clear hb2); (try clear hk); (try clear hi)) | ((with_reducible refine gate_dst (N := 7) rfl ?_); (try (refine gate_guard (by rfl) ?_; dsimp only)); refine bx_ (N := 7) (cs := #[.int .i64 0, .int .i64 0]) (t := 28) ?_; intro gb298 hg w20 hbox hb; have n0_ := Aside0.mk (Kd.R_below (by (with_reducible repeat (first | apply Kd.R_alloc | apply Kd.R_drewN | apply Kd.R_drew)); exact HO292.out) hb); have n1_ := Aside0.mk (blk_below (g := gb295) (o := .cells #[.int .i64 t293, .int .i64 t294] 28 (0, 0)) (bk_ BK295) hb); have n2_ := Aside0.mk (below_step (bw_ HB) hb); have n3_ := Aside0.mk (hbox); have n4_ := Aside0.mk ((by rw [hg]; exact (below_size (bw_ HB)) : w.heap.size ≤ gb298)); have n5_ := Aside0.mk ((by rw [hg]; exact (below_size (bw_ HB)) : w.heap.size ≤ gb298)); have n6_ := Aside0.mk ((by rw [hg]; exact Nat.ne_of_lt (blk_lt (g := gb295) (o := .cells #[.int .i64 t293, .int .i64 t294] 28 (0, 0)) (bk_ BK295)) : gb295 ≠ gb298)); have n7_ := Aside0.mk ((by rw [hg]; exact Nat.ne_of_gt (blk_lt (g := gb295) (o := .cells #[.int .i64 t293, .int .i64 t294] 28 (0, 0)) (bk_ BK295)) : gb298 ≠ gb295)); clear HO292; clear BK295; clear HB; have HO292 := n0_; have BK295 := n1_; have HB := n2_; have BK298 := n3_; have GW298 := n4_; have GE298 := n5_; have NB295_298 := n6_; have NB298_295 := n7_; clear n0_ n1_ n2_ n3_ n4_ n5_ n6_ n7_; clear hb hbox hg; have hnb21 := NB298_295.out; have hnc21 := NB295_298.out; obtain ⟨hcz22_0, hcz22_1, hfz22_0, hfz22_1⟩ := cz2_ BK298))
   go_loopg [8, 9] k (fun kq v8 v9 w' => ∃ (x8_1 : List Int) (x9_1 : Int), v9 = .int .i64 x9_1 ∧ Aside0 (linkhouselaw7_FlowDominatorsMatchSpec.l0 kq l0 a1 t290 x8_1 x9_1 t293 t294 = some r) ∧ Aside0 (kq ≤ k) ∧ Aside0 (Kd.R (Kd.int .i64) 3 w' w.heap.size (fun k_ => some k_ ≠ (v8 : Value).ownBlock) v291 t290) ∧ Aside0 (Kd.R (Kd.int .i64) 3 w' w.heap.size (fun k_ => some k_ ≠ (v291 : Value).ownBlock) v8 x8_1) ∧ Aside0 (w'.heap[gb295]? = some (.cells #[.int .i64 t293, .int .i64 t294] 28 (0, 0))) ∧ Aside0 (w'.heap[gb298]? = some (.cells #[.int .i64 t296, .int .i64 t297] 28 (0, 0))) ∧ Aside0 (Below w.heap.size w w'))
   case atStart => exact ⟨(([] : List Int)), (0), rs_, H', ⟨Nat.le_refl _⟩, ⟨by (with_reducible repeat (first | apply Kd.R_alloc | apply Kd.R_drewN | apply Kd.R_drew)); exact Kd.R_mono (Kd.R_far (p := ⟨gb298, 1, none⟩) (Kd.R_far (p := ⟨gb298, 0, none⟩) (Kd.R_types HO292.out BK298.out (by decide)) (fun _ hk => hk.2) (.int .i64 t296)) (fun _ hk => hk.2) (.int .i64 t297)) (fun _ hk => (by simp [Value.ownBlock]))⟩, ⟨by first | exact Kd.R_nil _ _ _ _ _ | exact Kd.N_nil _ _ _ _ _ | exact Kd.V_nil _ _ _ _ _ | exact Kd.Q_nil _ _ _ _ _ | exact Kd.S_nil _ _ _ _ _⟩, ⟨bk_ BK295⟩, ⟨bk_ BK298⟩, ⟨bw_ HB⟩⟩
   case round =>
    clear H'
    (try clear c1); (try clear c2); (try clear p2); (try clear c5); (try clear c5b0); (try clear c5b1); (try clear c6); (try clear c6b0); (try clear c6b1); (try clear c13); (try clear c19); (try clear c20); (try clear c21); (try clear hcz10_0); (try clear hcz10_1); (try clear hcz14_0); (try clear hcz14_1); (try clear hcz18_0); (try clear hcz18_1); (try clear hcz22_0); (try clear hcz22_1); (try clear hfz10_0); (try clear hfz10_1); (try clear hfz14_0); (try clear hfz14_1); (try clear hfz18_0); (try clear hfz18_1); (try clear hfz22_0); (try clear hfz22_1)
    obtain ⟨x8_1, x9_1, rfl, HA, HK1, HO_5, HO_8, BK295, BK298, HB⟩ := hrel
    cases gk with
    | zero => exact absurd HA.out (by simp [linkhouselaw7_FlowDominatorsMatchSpec.l0])
    | succ k1 =>
     have H := HA.out
     clear HA
     simp only [linkhouselaw7_FlowDominatorsMatchSpec.l0] at H
     by_cases c23 : x9_1 < (l0.length : Int)
     ·
      rw [if_pos c23] at H
      have c23b0 : decide (x9_1 < (l0.length : Int)) = true := decide_eq_true c23
      clear c23
      replace H := Option.bind_eq_some_iff.mp H
      obtain ⟨t301, A240, H⟩ := H
      replace H : (if x8_1.length < 17592186044416 then (linkhouselaw7_FlowDominatorsMatchSpec.l0 k1 l0 a1 t290 (x8_1 ++ [t301]) (wrap64 (x9_1 + 1)) t293 t294) else (none)) = some r := H
      have A24 := Aside0.mk A240
      clear A240
      by_cases c25 : x8_1.length < 17592186044416
      ·
       rw [if_pos c25] at H
       have LMc25 := Aside0.mk c25
       clear c25
       obtain ⟨y302, hy302⟩ : ∃ y_ : List Int, y_ = (x8_1 ++ [t301]) := ⟨_, rfl⟩
       replace H : (linkhouselaw7_FlowDominatorsMatchSpec.l0 k1 l0 a1 t290 y302 (wrap64 (x9_1 + 1)) t293 t294) = some r := by first | (rw [hy302]; with_reducible exact H) | (have H2_ := (Option.bind_some _ _).symm.trans H; rw [hy302]; with_reducible exact H2_) | (have H2_ := (Option.bind_some _ _).symm.trans H; with_reducible exact H2_) | with_reducible exact H | (rw [hy302]; exact H) | exact H
       have Ny302 := Aside0.mk hy302
       clear hy302
       have H' := Aside0.mk H
       clear H
       go_wp2_with (first | ((with_reducible refine gate_callee (f := 22) rfl ?_); refine goesL_ (some 47) rfl rfl Try.func22 (by kernel_rfl) rfl #[.slice A0 l0.length c0, .int .i64 a1, .int .i64 x9_1] rfl ar_ ?_; (with_reducible refine (linkhouseref7_Immediate.calls k1 _ _ l0 a1 x9_1 t301 _ ?side1 ?side2 A24.out).mono ?_); (case side1 => exact cb_ HR0 HB); (case side2 => exact HC0.out); rintro e w26 ⟨rfl, hb⟩; refine ⟨_, rfl, ?_⟩; have n0_ := Aside0.mk (Kd.R_below (by (with_reducible repeat (first | apply Kd.R_alloc | apply Kd.R_drewN | apply Kd.R_drew)); exact HO_5.out) hb); have n1_ := Aside0.mk (Kd.R_below (by (with_reducible repeat (first | apply Kd.R_alloc | apply Kd.R_drewN | apply Kd.R_drew)); exact HO_8.out) hb); have n2_ := Aside0.mk (blk_below (g := gb295) (o := .cells #[.int .i64 t293, .int .i64 t294] 28 (0, 0)) (bk_ BK295) hb); have n3_ := Aside0.mk (blk_below (g := gb298) (o := .cells #[.int .i64 t296, .int .i64 t297] 28 (0, 0)) (bk_ BK298) hb); have n4_ := Aside0.mk (below_step (bw_ HB) hb); clear HO_5; clear HO_8; clear BK295; clear BK298; clear HB; have HO_5 := n0_; have HO_8 := n1_; have BK295 := n2_; have BK298 := n3_; have HB := n4_; clear n0_ n1_ n2_ n3_ n4_; (try clear hb); (try clear hb2); (try clear hk); (try clear hi)) | ((with_reducible refine gate_builtin (b := .append) (xs := #[.tmp 43, .tmp 48]) rfl ?_); (try (refine gate_guard (by rfl) ?_; dsimp only)); at_builtin; refine Kd.R_append (Kd.int .i64) (w0 := w) w.heap.size rfl (.tmp 43) (.tmp 48) 22 3 (.int .i64 0) 8 rfl Try.underlying22 info3 rfl (by decide) (by omega) u8 x8_1 t301 [.int .i64 t301] (fun k_ => some k_ ≠ (v291 : Value).ownBlock) (fun _ => False) rfl rfl ?aP (fun _ hk => hk.elim) ?aF ?aO ?aB ?aS ?aL ?_; (case aP => exact rfl); (case aB => exact (bw_ HB)); (case aF => exact (fun k_ hk => Kd.fresh' (Kd.R_lt (by (with_reducible repeat (first | apply Kd.R_alloc | apply Kd.R_drewN | apply Kd.R_drew)); exact HO_5.out)) k_ hk)); (case aO => exact (by (with_reducible repeat (first | apply Kd.R_alloc | apply Kd.R_drewN | apply Kd.R_drew)); exact HO_8.out)); (case aS => exact (below_size (bw_ HB))); (case aL => have := LMc25.out; omega); intro v303 w27 ho hb hg hat; rw [← Ny302.out] at ho; have n0_ := Aside0.mk (Kd.R_after (ok := (fun _ => True)) (by (with_reducible repeat (first | apply Kd.R_alloc | apply Kd.R_drewN | apply Kd.R_drew)); exact Kd.R_mono HO_5.out (fun _ hk => ⟨trivial, hk⟩)) hg hat); have n1_ := Aside0.mk (blk_grown (g := gb295) (o := .cells #[.int .i64 t293, .int .i64 t294] 28 (0, 0)) (bk_ BK295) hg (Kd.R_ne HO_8.out BK295.out (by decide))); have n2_ := Aside0.mk (blk_grown (g := gb298) (o := .cells #[.int .i64 t296, .int .i64 t297] 28 (0, 0)) (bk_ BK298) hg (Kd.R_ne HO_8.out BK298.out (by decide))); have n3_ := Aside0.mk (hb); have n4_ := Aside0.mk (ho); clear HO_5; clear BK295; clear BK298; clear HB; clear HO_8; have HO_5 := n0_; have BK295 := n1_; have BK298 := n2_; have HB := n3_; have HO304 := n4_; clear n0_ n1_ n2_ n3_ n4_; clear ho hb hg hat))
       go_roundg k1
       case measure => have := HK1.out; omega
       case rel => exact ⟨(y302), (wrap64 (x9_1 + 1)), rs_, H', ⟨by have := HK1.out; omega⟩, ⟨by (with_reducible repeat (first | apply Kd.R_alloc | apply Kd.R_drewN | apply Kd.R_drew)); exact Kd.R_mono HO_5.out (fun _ hk => hk.2)⟩, ⟨by (with_reducible repeat (first | apply Kd.R_alloc | apply Kd.R_drewN | apply Kd.R_drew)); exact HO304.out⟩, ⟨bk_ BK295⟩, ⟨bk_ BK298⟩, ⟨bw_ HB⟩⟩
      ·
       rw [if_neg c25] at H
       exact absurd H (by simp)
     ·
      rw [if_neg c23] at H
      have c23b0 : decide (x9_1 < (l0.length : Int)) = false := decide_eq_false c23
      clear c23
      by_cases c28 : t293 = 0
      ·
       rw [if_pos c28] at H
       have c28b0 : (t293 == 0) = true := beq_iff_eq.mpr c28
       have c28b1 : (t293 != 0) = false := bne_eq_false_iff_eq.mpr c28
       clear c28
       replace H := Option.bind_eq_some_iff.mp H
       obtain ⟨t305, A290, H⟩ := H
       replace H : (if t305 = true then ((linkhouselaw7_crossed.f k1).bind fun t306 => (some t306)) else (some false)) = some r := H
       have A29 := Aside0.mk A290
       clear A290
       by_cases c30 : t305 = true
       ·
        subst c30
        have H1 : ((linkhouselaw7_crossed.f k1).bind fun t306 => (some t306)) = some r := by rw [if_pos rfl] at H; exact H
        clear H
        have H := H1
        clear H1
        replace H := Option.bind_eq_some_iff.mp H
        obtain ⟨t306, A310, H⟩ := H
        replace H : (some t306) = some r := H
        have A31 := Aside0.mk A310
        clear A310
        obtain rfl := Option.some.inj H
        have hnb32 := NB295_298.out
        have hnc32 := NB298_295.out
        obtain ⟨hcz33_0, hcz33_1, hfz33_0, hfz33_1⟩ := cz2_ BK295
        obtain ⟨Ao34, co34, eo34⟩ := Kd.R_slice HO_5.out
        subst eo34
        obtain ⟨Ao35, co35, eo35⟩ := Kd.R_slice HO_8.out
        subst eo35
        go_wp2_with (first | (go_at_call 23; (with_reducible refine (linkhouseref7_SameInts.calls k1 _ _ t290 _ _ x8_1 true _ ?side1 ?side2 ?side3 ?side4 A29.out).mono ?_); (case side1 => repeat (first | exact (Kd.R_reads' HO_5.out).2.2 | (with_reducible refine Kd.C_alloc ?_ _) | (with_reducible refine Kd.C_drewN ?_ _) | (with_reducible refine Kd.C_drew ?_))); (case side2 => exact (Kd.R_reads' HO_5.out).2.1); (case side3 => repeat (first | exact (Kd.R_reads' HO_8.out).2.2 | (with_reducible refine Kd.C_alloc ?_ _) | (with_reducible refine Kd.C_drewN ?_ _) | (with_reducible refine Kd.C_drew ?_))); (case side4 => exact (Kd.R_reads' HO_8.out).2.1); rintro e w' ⟨rfl, ⟨nd, rfl⟩⟩) | (go_at_call 21; (with_reducible refine (linkhouselaw7_crossed.calls k1  t306 _ A31.out).mono ?_); rintro e w36 ⟨rfl, hb⟩; have n0_ := Aside0.mk (Kd.R_below (by (with_reducible repeat (first | apply Kd.R_alloc | apply Kd.R_drewN | apply Kd.R_drew)); exact HO_5.out) hb); have n1_ := Aside0.mk (Kd.R_below (by (with_reducible repeat (first | apply Kd.R_alloc | apply Kd.R_drewN | apply Kd.R_drew)); exact HO_8.out) hb); have n2_ := Aside0.mk (blk_below (g := gb295) (o := .cells #[.int .i64 t293, .int .i64 t294] 28 (0, 0)) (bk_ BK295) hb); have n3_ := Aside0.mk (blk_below (g := gb298) (o := .cells #[.int .i64 t296, .int .i64 t297] 28 (0, 0)) (bk_ BK298) hb); have n4_ := Aside0.mk (below_step (bw_ HB) hb); clear HO_5; clear HO_8; clear BK295; clear BK298; clear HB; have HO_5 := n0_; have HO_8 := n1_; have BK295 := n2_; have BK298 := n3_; have HB := n4_; clear n0_ n1_ n2_ n3_ n4_; (try clear hb); (try clear hb2); (try clear hk); (try clear hi)))
        go_ret
        exact ⟨id_, bw_ HB⟩
       ·
        replace c30 := Bool.eq_false_iff.mpr c30
        subst c30
        have H1 : (some false) = some r := by rw [if_neg (show ¬ (false = true) by decide)] at H; exact H
        clear H
        have H := H1
        clear H1
        obtain rfl := Option.some.inj H
        have hnb37 := NB295_298.out
        have hnc37 := NB298_295.out
        obtain ⟨hcz38_0, hcz38_1, hfz38_0, hfz38_1⟩ := cz2_ BK295
        obtain ⟨Ao39, co39, eo39⟩ := Kd.R_slice HO_5.out
        subst eo39
        obtain ⟨Ao40, co40, eo40⟩ := Kd.R_slice HO_8.out
        subst eo40
        go_wp2_with (first | (go_at_call 23; (with_reducible refine (linkhouseref7_SameInts.calls k1 _ _ t290 _ _ x8_1 false _ ?side1 ?side2 ?side3 ?side4 A29.out).mono ?_); (case side1 => repeat (first | exact (Kd.R_reads' HO_5.out).2.2 | (with_reducible refine Kd.C_alloc ?_ _) | (with_reducible refine Kd.C_drewN ?_ _) | (with_reducible refine Kd.C_drew ?_))); (case side2 => exact (Kd.R_reads' HO_5.out).2.1); (case side3 => repeat (first | exact (Kd.R_reads' HO_8.out).2.2 | (with_reducible refine Kd.C_alloc ?_ _) | (with_reducible refine Kd.C_drewN ?_ _) | (with_reducible refine Kd.C_drew ?_))); (case side4 => exact (Kd.R_reads' HO_8.out).2.1); rintro e w' ⟨rfl, ⟨nd, rfl⟩⟩))
        go_ret
        exact ⟨id_, bw_ HB⟩
      ·
       rw [if_neg c28] at H
       have c28b0 : (t293 == 0) = false := beq_eq_false_iff_ne.mpr c28
       have c28b1 : (t293 != 0) = true := bne_iff_ne.mpr c28
       obtain rfl := Option.some.inj H
       have hnb41 := NB295_298.out
       have hnc41 := NB298_295.out
       obtain ⟨hcz42_0, hcz42_1, hfz42_0, hfz42_1⟩ := cz2_ BK295
       go_wp2
       go_ret
       exact ⟨id_, bw_ HB⟩
 ·
  rw [if_neg c5] at H
  have c5b0 : (t296 == 0) = false := beq_eq_false_iff_ne.mpr c5
  have c5b1 : (t296 != 0) = true := bne_iff_ne.mpr c5
  by_cases c43 : (t293 == t296 && (t294 == t297)) = true
  ·
   rw [if_pos c43] at H
   have c43b0 : (t293 == t296 && (t294 == t297)) = true := c43
   (try (have c43b1 : decide (t293 = t296 && (t294 == t297)) = true := by simpa using c43))
   (try (have c43b2 : (t293 == t296 && (t294 == t297)) = true := by simpa using c43))
   clear c43
   by_cases c44 : (t290.length : Int) = 0
   ·
    rw [if_pos c44] at H
    have c44b0 : ((t290.length : Int) == 0) = true := beq_iff_eq.mpr c44
    have c44b1 : ((t290.length : Int) != 0) = false := bne_eq_false_iff_eq.mpr c44
    clear c44
    replace H := Option.bind_eq_some_iff.mp H
    obtain ⟨t299, A450, H⟩ := H
    replace H : (some t299) = some r := H
    have A45 := Aside0.mk A450
    clear A450
    obtain rfl := Option.some.inj H
    go_enter Try.func5, Try.ntmps5
    go_wp2_with (first | ((with_reducible refine gate_callee (f := 19) rfl ?_); refine goesL_ (some 13) rfl rfl Try.func19 (by kernel_rfl) rfl #[.slice A0 l0.length c0, .int .i64 a1] rfl ar_ ?_; (with_reducible refine (flow_Dominators.calls k _ _ l0 a1 t290 t293 t294 _ ?side1 ?side2 A3.out).mono ?_); (case side1 => repeat (first | exact HR0.out | (with_reducible refine Kd.C_alloc ?_ _) | (with_reducible refine Kd.C_drewN ?_ _) | (with_reducible refine Kd.C_drew ?_))); (case side2 => exact HC0.out); rintro e w46 ⟨v291, rfl, ho0, hb⟩; refine ⟨_, rfl, ?_⟩; have n0_ := Aside0.mk (Kd.R_lower ho0 (below_size (bw_ HB))); have n1_ := Aside0.mk (below_step (bw_ HB) hb); clear HB; have HO292 := n0_; have HB := n1_; clear n0_ n1_; (try clear hb); (try clear hb2); (try clear hk); (try clear hi); (try clear ho0)) | ((with_reducible refine gate_dst (N := 6) rfl ?_); (try (refine gate_guard (by rfl) ?_; dsimp only)); refine bx_ (N := 6) (cs := #[.int .i64 0, .int .i64 0]) (t := 28) ?_; intro gb295 hg w47 hbox hb; have n0_ := Aside0.mk (Kd.R_below (by (with_reducible repeat (first | apply Kd.R_alloc | apply Kd.R_drewN | apply Kd.R_drew)); exact HO292.out) hb); have n1_ := Aside0.mk (below_step (bw_ HB) hb); have n2_ := Aside0.mk (hbox); have n3_ := Aside0.mk ((by rw [hg]; exact (below_size (bw_ HB)) : w.heap.size ≤ gb295)); have n4_ := Aside0.mk ((by rw [hg]; exact (below_size (bw_ HB)) : w.heap.size ≤ gb295)); clear HO292; clear HB; have HO292 := n0_; have HB := n1_; have BK295 := n2_; have GW295 := n3_; have GE295 := n4_; clear n0_ n1_ n2_ n3_ n4_; clear hb hbox hg; obtain ⟨hcz48_0, hcz48_1, hfz48_0, hfz48_1⟩ := cz2_ BK295) | ((with_reducible refine gate_callee (f := 20) rfl ?_); refine goesL_ (some 18) rfl rfl Try.func20 (by kernel_rfl) rfl #[.slice A0 l0.length c0, .int .i64 a1] rfl ar_ ?_; (with_reducible refine (linkhouselaw7_fromFault.calls k _ _ l0 a1 t296 t297 _ ?side1 ?side2 A4.out).mono ?_); (case side1 => exact cb_ HR0 HB); (case side2 => exact HC0.out); rintro e w49 ⟨rfl, hb⟩; refine ⟨_, rfl, ?_⟩; have n0_ := Aside0.mk (Kd.R_below (by (with_reducible repeat (first | apply Kd.R_alloc | apply Kd.R_drewN | apply Kd.R_drew)); exact (Kd.R_mono (Kd.R_far (p := ⟨gb295, 1, none⟩) (Kd.R_far (p := ⟨gb295, 0, none⟩) (Kd.R_types HO292.out BK295.out (by decide)) (fun _ hk => hk.2) (.int .i64 t293)) (fun _ hk => hk.2) (.int .i64 t294)) (fun _ h_ => h_.1))) hb); have n1_ := Aside0.mk (blk_below (g := gb295) (o := .cells #[.int .i64 t293, .int .i64 t294] 28 (0, 0)) (bk_ BK295) hb); have n2_ := Aside0.mk (below_step (bw_ HB) hb); clear HO292; clear BK295; clear HB; have HO292 := n0_; have BK295 := n1_; have HB := n2_; clear n0_ n1_ n2_; (try clear hb); (try clear hb2); (try clear hk); (try clear hi)) | ((with_reducible refine gate_dst (N := 7) rfl ?_); (try (refine gate_guard (by rfl) ?_; dsimp only)); refine bx_ (N := 7) (cs := #[.int .i64 0, .int .i64 0]) (t := 28) ?_; intro gb298 hg w50 hbox hb; have n0_ := Aside0.mk (Kd.R_below (by (with_reducible repeat (first | apply Kd.R_alloc | apply Kd.R_drewN | apply Kd.R_drew)); exact HO292.out) hb); have n1_ := Aside0.mk (blk_below (g := gb295) (o := .cells #[.int .i64 t293, .int .i64 t294] 28 (0, 0)) (bk_ BK295) hb); have n2_ := Aside0.mk (below_step (bw_ HB) hb); have n3_ := Aside0.mk (hbox); have n4_ := Aside0.mk ((by rw [hg]; exact (below_size (bw_ HB)) : w.heap.size ≤ gb298)); have n5_ := Aside0.mk ((by rw [hg]; exact (below_size (bw_ HB)) : w.heap.size ≤ gb298)); have n6_ := Aside0.mk ((by rw [hg]; exact Nat.ne_of_lt (blk_lt (g := gb295) (o := .cells #[.int .i64 t293, .int .i64 t294] 28 (0, 0)) (bk_ BK295)) : gb295 ≠ gb298)); have n7_ := Aside0.mk ((by rw [hg]; exact Nat.ne_of_gt (blk_lt (g := gb295) (o := .cells #[.int .i64 t293, .int .i64 t294] 28 (0, 0)) (bk_ BK295)) : gb298 ≠ gb295)); clear HO292; clear BK295; clear HB; have HO292 := n0_; have BK295 := n1_; have HB := n2_; have BK298 := n3_; have GW298 := n4_; have GE298 := n5_; have NB295_298 := n6_; have NB298_295 := n7_; clear n0_ n1_ n2_ n3_ n4_ n5_ n6_ n7_; clear hb hbox hg; have hnb51 := NB298_295.out; have hnc51 := NB295_298.out; obtain ⟨hcz52_0, hcz52_1, hfz52_0, hfz52_1⟩ := cz2_ BK298; obtain ⟨hcz53_0, hcz53_1, hfz53_0, hfz53_1⟩ := cz2_ BK295; obtain ⟨Ao54, co54, eo54⟩ := Kd.R_slice HO292.out; subst eo54) | (go_at_call 21; (with_reducible refine (linkhouselaw7_crossed.calls k  t299 _ A45.out).mono ?_); rintro e w55 ⟨rfl, hb⟩; have n0_ := Aside0.mk (Kd.R_below (by (with_reducible repeat (first | apply Kd.R_alloc | apply Kd.R_drewN | apply Kd.R_drew)); exact (Kd.R_mono (Kd.R_far (p := ⟨gb298, 1, none⟩) (Kd.R_far (p := ⟨gb298, 0, none⟩) (Kd.R_types HO292.out BK298.out (by decide)) (fun _ hk => hk.2) (.int .i64 t296)) (fun _ hk => hk.2) (.int .i64 t297)) (fun _ h_ => h_.1))) hb); have n1_ := Aside0.mk (blk_below (g := gb295) (o := .cells #[.int .i64 t293, .int .i64 t294] 28 (0, 0)) (bk_ BK295) hb); have n2_ := Aside0.mk (blk_below (g := gb298) (o := .cells #[.int .i64 t296, .int .i64 t297] 28 (0, 0)) (bk_ BK298) hb); have n3_ := Aside0.mk (below_step (bw_ HB) hb); clear HO292; clear BK295; clear BK298; clear HB; have HO292 := n0_; have BK295 := n1_; have BK298 := n2_; have HB := n3_; clear n0_ n1_ n2_ n3_; (try clear hb); (try clear hb2); (try clear hk); (try clear hi)))
    go_ret
    exact ⟨id_, bw_ HB⟩
   ·
    rw [if_neg c44] at H
    have c44b0 : ((t290.length : Int) == 0) = false := beq_eq_false_iff_ne.mpr c44
    have c44b1 : ((t290.length : Int) != 0) = true := bne_iff_ne.mpr c44
    have c44b2 : ¬ (t290 = []) := fun h_ => c44 (by rw [h_]; rfl)
    obtain rfl := Option.some.inj H
    go_enter Try.func5, Try.ntmps5
    go_wp2_with (first | ((with_reducible refine gate_callee (f := 19) rfl ?_); refine goesL_ (some 13) rfl rfl Try.func19 (by kernel_rfl) rfl #[.slice A0 l0.length c0, .int .i64 a1] rfl ar_ ?_; (with_reducible refine (flow_Dominators.calls k _ _ l0 a1 t290 t293 t294 _ ?side1 ?side2 A3.out).mono ?_); (case side1 => repeat (first | exact HR0.out | (with_reducible refine Kd.C_alloc ?_ _) | (with_reducible refine Kd.C_drewN ?_ _) | (with_reducible refine Kd.C_drew ?_))); (case side2 => exact HC0.out); rintro e w56 ⟨v291, rfl, ho0, hb⟩; refine ⟨_, rfl, ?_⟩; have n0_ := Aside0.mk (Kd.R_lower ho0 (below_size (bw_ HB))); have n1_ := Aside0.mk (below_step (bw_ HB) hb); clear HB; have HO292 := n0_; have HB := n1_; clear n0_ n1_; (try clear hb); (try clear hb2); (try clear hk); (try clear hi); (try clear ho0)) | ((with_reducible refine gate_dst (N := 6) rfl ?_); (try (refine gate_guard (by rfl) ?_; dsimp only)); refine bx_ (N := 6) (cs := #[.int .i64 0, .int .i64 0]) (t := 28) ?_; intro gb295 hg w57 hbox hb; have n0_ := Aside0.mk (Kd.R_below (by (with_reducible repeat (first | apply Kd.R_alloc | apply Kd.R_drewN | apply Kd.R_drew)); exact HO292.out) hb); have n1_ := Aside0.mk (below_step (bw_ HB) hb); have n2_ := Aside0.mk (hbox); have n3_ := Aside0.mk ((by rw [hg]; exact (below_size (bw_ HB)) : w.heap.size ≤ gb295)); have n4_ := Aside0.mk ((by rw [hg]; exact (below_size (bw_ HB)) : w.heap.size ≤ gb295)); clear HO292; clear HB; have HO292 := n0_; have HB := n1_; have BK295 := n2_; have GW295 := n3_; have GE295 := n4_; clear n0_ n1_ n2_ n3_ n4_; clear hb hbox hg; obtain ⟨hcz58_0, hcz58_1, hfz58_0, hfz58_1⟩ := cz2_ BK295) | ((with_reducible refine gate_callee (f := 20) rfl ?_); refine goesL_ (some 18) rfl rfl Try.func20 (by kernel_rfl) rfl #[.slice A0 l0.length c0, .int .i64 a1] rfl ar_ ?_; (with_reducible refine (linkhouselaw7_fromFault.calls k _ _ l0 a1 t296 t297 _ ?side1 ?side2 A4.out).mono ?_); (case side1 => exact cb_ HR0 HB); (case side2 => exact HC0.out); rintro e w59 ⟨rfl, hb⟩; refine ⟨_, rfl, ?_⟩; have n0_ := Aside0.mk (Kd.R_below (by (with_reducible repeat (first | apply Kd.R_alloc | apply Kd.R_drewN | apply Kd.R_drew)); exact (Kd.R_mono (Kd.R_far (p := ⟨gb295, 1, none⟩) (Kd.R_far (p := ⟨gb295, 0, none⟩) (Kd.R_types HO292.out BK295.out (by decide)) (fun _ hk => hk.2) (.int .i64 t293)) (fun _ hk => hk.2) (.int .i64 t294)) (fun _ h_ => h_.1))) hb); have n1_ := Aside0.mk (blk_below (g := gb295) (o := .cells #[.int .i64 t293, .int .i64 t294] 28 (0, 0)) (bk_ BK295) hb); have n2_ := Aside0.mk (below_step (bw_ HB) hb); clear HO292; clear BK295; clear HB; have HO292 := n0_; have BK295 := n1_; have HB := n2_; clear n0_ n1_ n2_; (try clear hb); (try clear hb2); (try clear hk); (try clear hi)) | ((with_reducible refine gate_dst (N := 7) rfl ?_); (try (refine gate_guard (by rfl) ?_; dsimp only)); refine bx_ (N := 7) (cs := #[.int .i64 0, .int .i64 0]) (t := 28) ?_; intro gb298 hg w60 hbox hb; have n0_ := Aside0.mk (Kd.R_below (by (with_reducible repeat (first | apply Kd.R_alloc | apply Kd.R_drewN | apply Kd.R_drew)); exact HO292.out) hb); have n1_ := Aside0.mk (blk_below (g := gb295) (o := .cells #[.int .i64 t293, .int .i64 t294] 28 (0, 0)) (bk_ BK295) hb); have n2_ := Aside0.mk (below_step (bw_ HB) hb); have n3_ := Aside0.mk (hbox); have n4_ := Aside0.mk ((by rw [hg]; exact (below_size (bw_ HB)) : w.heap.size ≤ gb298)); have n5_ := Aside0.mk ((by rw [hg]; exact (below_size (bw_ HB)) : w.heap.size ≤ gb298)); have n6_ := Aside0.mk ((by rw [hg]; exact Nat.ne_of_lt (blk_lt (g := gb295) (o := .cells #[.int .i64 t293, .int .i64 t294] 28 (0, 0)) (bk_ BK295)) : gb295 ≠ gb298)); have n7_ := Aside0.mk ((by rw [hg]; exact Nat.ne_of_gt (blk_lt (g := gb295) (o := .cells #[.int .i64 t293, .int .i64 t294] 28 (0, 0)) (bk_ BK295)) : gb298 ≠ gb295)); clear HO292; clear BK295; clear HB; have HO292 := n0_; have BK295 := n1_; have HB := n2_; have BK298 := n3_; have GW298 := n4_; have GE298 := n5_; have NB295_298 := n6_; have NB298_295 := n7_; clear n0_ n1_ n2_ n3_ n4_ n5_ n6_ n7_; clear hb hbox hg; have hnb61 := NB298_295.out; have hnc61 := NB295_298.out; obtain ⟨hcz62_0, hcz62_1, hfz62_0, hfz62_1⟩ := cz2_ BK298; obtain ⟨hcz63_0, hcz63_1, hfz63_0, hfz63_1⟩ := cz2_ BK295; obtain ⟨Ao64, co64, eo64⟩ := Kd.R_slice HO292.out; subst eo64))
    go_ret
    exact ⟨id_, bw_ HB⟩
  ·
   rw [if_neg c43] at H
   have c43b0 : (t293 == t296 && (t294 == t297)) = false := by simpa using c43
   (try (have c43b1 : decide (t293 = t296 && (t294 == t297)) = false := by simpa using c43))
   (try (have c43b2 : (t293 == t296 && (t294 == t297)) = false := by simpa using c43))
   (try (have c43b3 : ¬ (t293 = t296 && (t294 == t297)) := by simpa using c43))
   clear c43
   obtain rfl := Option.some.inj H
   go_enter Try.func5, Try.ntmps5
   go_wp2_with (first | ((with_reducible refine gate_callee (f := 19) rfl ?_); refine goesL_ (some 13) rfl rfl Try.func19 (by kernel_rfl) rfl #[.slice A0 l0.length c0, .int .i64 a1] rfl ar_ ?_; (with_reducible refine (flow_Dominators.calls k _ _ l0 a1 t290 t293 t294 _ ?side1 ?side2 A3.out).mono ?_); (case side1 => repeat (first | exact HR0.out | (with_reducible refine Kd.C_alloc ?_ _) | (with_reducible refine Kd.C_drewN ?_ _) | (with_reducible refine Kd.C_drew ?_))); (case side2 => exact HC0.out); rintro e w65 ⟨v291, rfl, ho0, hb⟩; refine ⟨_, rfl, ?_⟩; have n0_ := Aside0.mk (Kd.R_lower ho0 (below_size (bw_ HB))); have n1_ := Aside0.mk (below_step (bw_ HB) hb); clear HB; have HO292 := n0_; have HB := n1_; clear n0_ n1_; (try clear hb); (try clear hb2); (try clear hk); (try clear hi); (try clear ho0)) | ((with_reducible refine gate_dst (N := 6) rfl ?_); (try (refine gate_guard (by rfl) ?_; dsimp only)); refine bx_ (N := 6) (cs := #[.int .i64 0, .int .i64 0]) (t := 28) ?_; intro gb295 hg w66 hbox hb; have n0_ := Aside0.mk (Kd.R_below (by (with_reducible repeat (first | apply Kd.R_alloc | apply Kd.R_drewN | apply Kd.R_drew)); exact HO292.out) hb); have n1_ := Aside0.mk (below_step (bw_ HB) hb); have n2_ := Aside0.mk (hbox); have n3_ := Aside0.mk ((by rw [hg]; exact (below_size (bw_ HB)) : w.heap.size ≤ gb295)); have n4_ := Aside0.mk ((by rw [hg]; exact (below_size (bw_ HB)) : w.heap.size ≤ gb295)); clear HO292; clear HB; have HO292 := n0_; have HB := n1_; have BK295 := n2_; have GW295 := n3_; have GE295 := n4_; clear n0_ n1_ n2_ n3_ n4_; clear hb hbox hg; obtain ⟨hcz67_0, hcz67_1, hfz67_0, hfz67_1⟩ := cz2_ BK295) | ((with_reducible refine gate_callee (f := 20) rfl ?_); refine goesL_ (some 18) rfl rfl Try.func20 (by kernel_rfl) rfl #[.slice A0 l0.length c0, .int .i64 a1] rfl ar_ ?_; (with_reducible refine (linkhouselaw7_fromFault.calls k _ _ l0 a1 t296 t297 _ ?side1 ?side2 A4.out).mono ?_); (case side1 => exact cb_ HR0 HB); (case side2 => exact HC0.out); rintro e w68 ⟨rfl, hb⟩; refine ⟨_, rfl, ?_⟩; have n0_ := Aside0.mk (Kd.R_below (by (with_reducible repeat (first | apply Kd.R_alloc | apply Kd.R_drewN | apply Kd.R_drew)); exact (Kd.R_mono (Kd.R_far (p := ⟨gb295, 1, none⟩) (Kd.R_far (p := ⟨gb295, 0, none⟩) (Kd.R_types HO292.out BK295.out (by decide)) (fun _ hk => hk.2) (.int .i64 t293)) (fun _ hk => hk.2) (.int .i64 t294)) (fun _ h_ => h_.1))) hb); have n1_ := Aside0.mk (blk_below (g := gb295) (o := .cells #[.int .i64 t293, .int .i64 t294] 28 (0, 0)) (bk_ BK295) hb); have n2_ := Aside0.mk (below_step (bw_ HB) hb); clear HO292; clear BK295; clear HB; have HO292 := n0_; have BK295 := n1_; have HB := n2_; clear n0_ n1_ n2_; (try clear hb); (try clear hb2); (try clear hk); (try clear hi)) | ((with_reducible refine gate_dst (N := 7) rfl ?_); (try (refine gate_guard (by rfl) ?_; dsimp only)); refine bx_ (N := 7) (cs := #[.int .i64 0, .int .i64 0]) (t := 28) ?_; intro gb298 hg w69 hbox hb; have n0_ := Aside0.mk (Kd.R_below (by (with_reducible repeat (first | apply Kd.R_alloc | apply Kd.R_drewN | apply Kd.R_drew)); exact HO292.out) hb); have n1_ := Aside0.mk (blk_below (g := gb295) (o := .cells #[.int .i64 t293, .int .i64 t294] 28 (0, 0)) (bk_ BK295) hb); have n2_ := Aside0.mk (below_step (bw_ HB) hb); have n3_ := Aside0.mk (hbox); have n4_ := Aside0.mk ((by rw [hg]; exact (below_size (bw_ HB)) : w.heap.size ≤ gb298)); have n5_ := Aside0.mk ((by rw [hg]; exact (below_size (bw_ HB)) : w.heap.size ≤ gb298)); have n6_ := Aside0.mk ((by rw [hg]; exact Nat.ne_of_lt (blk_lt (g := gb295) (o := .cells #[.int .i64 t293, .int .i64 t294] 28 (0, 0)) (bk_ BK295)) : gb295 ≠ gb298)); have n7_ := Aside0.mk ((by rw [hg]; exact Nat.ne_of_gt (blk_lt (g := gb295) (o := .cells #[.int .i64 t293, .int .i64 t294] 28 (0, 0)) (bk_ BK295)) : gb298 ≠ gb295)); clear HO292; clear BK295; clear HB; have HO292 := n0_; have BK295 := n1_; have HB := n2_; have BK298 := n3_; have GW298 := n4_; have GE298 := n5_; have NB295_298 := n6_; have NB298_295 := n7_; clear n0_ n1_ n2_ n3_ n4_ n5_ n6_ n7_; clear hb hbox hg; have hnb70 := NB298_295.out; have hnc70 := NB295_298.out; obtain ⟨hcz71_0, hcz71_1, hfz71_0, hfz71_1⟩ := cz2_ BK298; obtain ⟨hcz72_0, hcz72_1, hfz72_0, hfz72_1⟩ := cz2_ BK295))
   go_ret
   exact ⟨id_, bw_ HB⟩

end Go.Proofs.Ytaellapacoikaaa.PB
