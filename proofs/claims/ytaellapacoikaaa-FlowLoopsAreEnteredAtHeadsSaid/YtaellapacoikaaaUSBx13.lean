import Derived.Test.YtaellapacoikaaaU0
import Derived.Test.YtaellapacoikaaaUSBx0
import Derived.Test.YtaellapacoikaaaUSBx4
import Derived.Test.YtaellapacoikaaaUSBx6
import Derived.Test.YtaellapacoikaaaUSBx7
import Derived.Test.YtaellapacoikaaaUSBx11
namespace Go.Proofs.Ytaellapacoikaaa.PB
open Go.RowKit Go.Proofs.YtaellapacoikaaaW.PrintWords Go.Proofs.YtaellapacoikaaaW.PrintLast Go.Proofs.YtaellapacoikaaaW.PrintMore
attribute [local go_sem] max2_int min2_int max_two min_two max_three min_three max_four min_four   -- for this text's walks alone
set_option linter.unusedVariables false
set_option linter.unusedSimpArgs false

/-! ### linkhouseref7_Has: function 32 -/
set_option maxRecDepth 100000 in
def linkhouseref7_Has.l0 : Nat → List Int → Int → Int → Option (Bool)
 | 0, _, _, _ => none
 | k + 1, x0, x1, x5 => if x5 < (x0.length : Int) then (if 0 ≤ x5 then (if (rd x0 x5) = x1 then (some true) else (linkhouseref7_Has.l0 k x0 x1 (wrap64 (x5 + 1)))) else (none)) else (some false)
set_option maxRecDepth 100000 in
def linkhouseref7_Has.f (k : Nat) (l0 : List Int) (a1 : Int) : Option (Bool) := linkhouseref7_Has.l0 k l0 a1 0
set_option maxRecDepth 100000 in
theorem linkhouseref7_Has.mono_l : ∀ k, (∀ y0 y1 y2, LeO (linkhouseref7_Has.l0 k y0 y1 y2) (linkhouseref7_Has.l0 (k + 1) y0 y1 y2))
 | 0 => fun _ _ _ r h => by simp [linkhouseref7_Has.l0] at h
 | k + 1 => by
  have ih0 := linkhouseref7_Has.mono_l k
  ·
   intro y0 y1 y2
   unfold linkhouseref7_Has.l0
   repeat' first
   | (with_reducible exact ih0 _ _ _)
   | (with_reducible exact LeO.refl _)
   | (with_reducible exact LeO.none _)
   | (with_reducible refine LeO.ite ?_ ?_)
   | (with_reducible refine LeO.bind ?_ (fun _ => ?_))
   | exact ih0 _ _ _
   | exact LeO.none _
   | refine LeO.ite ?_ ?_
   | refine LeO.bind ?_ (fun _ => ?_)
set_option maxRecDepth 100000 in
theorem linkhouseref7_Has.mono : ∀ a0 a1 k, LeO (linkhouseref7_Has.f k a0 a1) (linkhouseref7_Has.f (k + 1) a0 a1) := by
 intro a0 a1 k
 have ih0 := linkhouseref7_Has.mono_l k
 unfold linkhouseref7_Has.f
 repeat' first
   | (with_reducible exact ih0 _ _ _)
   | (with_reducible exact LeO.refl _)
   | (with_reducible exact LeO.none _)
   | (with_reducible refine LeO.ite ?_ ?_)
   | (with_reducible refine LeO.bind ?_ (fun _ => ?_))
   | exact ih0 _ _ _
   | exact LeO.none _
   | refine LeO.ite ?_ ?_
   | refine LeO.bind ?_ (fun _ => ?_)
set_option maxHeartbeats 8000000 in
set_option maxRecDepth 100000 in
theorem linkhouseref7_Has.calls (k : Nat) (A0 : Option Addr) (c0 : Nat) (l0 : List Int) (a1 : Int) (r : Bool) (w : World) (hr0 : Kd.C (Kd.int .i64) w A0 l0.length l0) (hc0 : l0.length ≤ c0) (h : linkhouseref7_Has.f k l0 a1 = some r) :
  Calls Try.prog 32 #[.slice A0 l0.length c0, .int .i64 a1] w fun e w' => e = .returned (.bool r) ∧ Drawn0 w w' := by
 have HR0 := Aside0.mk hr0
 have HC0 := Aside0.mk hc0
 clear hr0 hc0
 have H : (linkhouseref7_Has.l0 k l0 a1 0) = some r := h
 clear h
 have H' := Aside0.mk H
 clear H
 go_enter Try.func32, Try.ntmps32
 go_wp2
 go_loopg [5] k (fun kq v5 w' => ∃ (x5_1 : Int), v5 = .int .i64 x5_1 ∧ Aside0 (linkhouseref7_Has.l0 kq l0 a1 x5_1 = some r) ∧ Aside0 (kq ≤ k) ∧ Drawn0 w w')
 case atStart => exact ⟨(0), rs_, H', ⟨Nat.le_refl _⟩, by repeat (first | exact Drawn0.refl _ | apply Drawn0.step)⟩
 case round =>
  clear H'
  (try clear p2)
  obtain ⟨x5_1, rfl, HA, HK1, ⟨m1, rfl⟩⟩ := hrel
  cases gk with
  | zero => exact absurd HA.out (by simp [linkhouseref7_Has.l0])
  | succ k1 =>
   have H := HA.out
   clear HA
   simp only [linkhouseref7_Has.l0] at H
   by_cases c3 : x5_1 < (l0.length : Int)
   ·
    rw [if_pos c3] at H
    have c3b0 : decide (x5_1 < (l0.length : Int)) = true := decide_eq_true c3
    clear c3
    by_cases c4 : 0 ≤ x5_1
    ·
     rw [if_pos c4] at H
     have c4b0 : decide (0 ≤ x5_1) = true := decide_eq_true c4
     clear c4
     by_cases c5 : (rd l0 x5_1) = a1
     ·
      rw [if_pos c5] at H
      have c5b0 : ((rd l0 x5_1) == a1) = true := beq_iff_eq.mpr c5
      have c5b1 : ((rd l0 x5_1) != a1) = false := bne_eq_false_iff_eq.mpr c5
      clear c5
      obtain rfl := Option.some.inj H
      have p440 : 0 ≤ (x5_1 : Int) := of_decide_eq_true (by first | (with_reducible assumption) | assumption)
      have q440 : x5_1 < (l0.length : Int) := of_decide_eq_true (by first | (with_reducible assumption) | assumption)
      obtain ⟨ad440, e440, hx440_0⟩ := Kd.at_int HR0.out x5_1 p440 q440
      cases e440
      replace p440 := eq_true p440
      replace q440 := eq_true q440
      go_wp2
      go_ret
      exact ⟨by first | rfl | (simp; done) | (simp [*]; done), by repeat (first | exact Drawn0.refl _ | apply Drawn0.step)⟩
     ·
      rw [if_neg c5] at H
      have c5b0 : ((rd l0 x5_1) == a1) = false := beq_eq_false_iff_ne.mpr c5
      have c5b1 : ((rd l0 x5_1) != a1) = true := bne_iff_ne.mpr c5
      have H' := Aside0.mk H
      clear H
      have p440 : 0 ≤ (x5_1 : Int) := of_decide_eq_true (by first | (with_reducible assumption) | assumption)
      have q440 : x5_1 < (l0.length : Int) := of_decide_eq_true (by first | (with_reducible assumption) | assumption)
      obtain ⟨ad440, e440, hx440_0⟩ := Kd.at_int HR0.out x5_1 p440 q440
      cases e440
      replace p440 := eq_true p440
      replace q440 := eq_true q440
      go_wp2
      go_roundg k1
      case measure => have := HK1.out; omega
      case rel => exact ⟨(wrap64 (x5_1 + 1)), rs_, H', ⟨by have := HK1.out; omega⟩, by repeat (first | exact Drawn0.refl _ | apply Drawn0.step)⟩
    ·
     rw [if_neg c4] at H
     exact absurd H (by simp)
   ·
    rw [if_neg c3] at H
    have c3b0 : decide (x5_1 < (l0.length : Int)) = false := decide_eq_false c3
    clear c3
    obtain rfl := Option.some.inj H
    go_wp2
    go_ret
    exact ⟨by first | rfl | (simp; done) | (simp [*]; done), by repeat (first | exact Drawn0.refl _ | apply Drawn0.step)⟩

/-! ### linkhouselaw7_FlowLoopsAreEnteredAtHeads: function 9 -/
set_option maxRecDepth 100000 in
mutual
def linkhouselaw7_FlowLoopsAreEnteredAtHeads.j0 : Nat → List (S62) → Int → Int → List (S68) → List Bool → Bool → Option (Bool)
 | 0, _, _, _, _, _, _ => none
 | k + 1, x0, x2, x3, x9, x11, x50 => if x50 = true then ((linkhouselaw7_crossed.f k).bind fun t455 => (some t455)) else (if (x11.length : Int) = (x0.length : Int) then (if 0 ≤ x3 then (if x3 < (x11.length : Int) then (if rdOf false x11 x3 = true then (if 0 ≤ x2 then (if x2 < (x9.length : Int) then ((linkhouseref7_Has.f k ((rd_T68 x9 x2).f1) x3).bind fun t458 => (linkhouselaw7_FlowLoopsAreEnteredAtHeads.j1 k x0 x2 x3 x9 t458)) else (none)) else (none)) else (linkhouselaw7_FlowLoopsAreEnteredAtHeads.j1 k x0 x2 x3 x9 true)) else (none)) else (none)) else (some false))
def linkhouselaw7_FlowLoopsAreEnteredAtHeads.j1 : Nat → List (S62) → Int → Int → List (S68) → Bool → Option (Bool)
 | 0, _, _, _, _, _ => none
 | k + 1, x0, x2, x3, x9, x70 => if x70 = true then ((linkhouselaw7_crossed.f k).bind fun t459 => (some t459)) else (linkhouselaw7_FlowLoopsAreEnteredAtHeads.l0 k x0 x2 x3 x9 0)
def linkhouselaw7_FlowLoopsAreEnteredAtHeads.l0 : Nat → List (S62) → Int → Int → List (S68) → Int → Option (Bool)
 | 0, _, _, _, _, _ => none
 | k + 1, x0, x2, x3, x9, x13 => if 0 ≤ x3 then (if x3 < (x0.length : Int) then (if x13 < (((rd_T62 x0 x3).f3).length : Int) then (if 0 ≤ x13 then (if ((rd_T64 ((rd_T62 x0 x3).f3) x13).f0) = 3 then (linkhouselaw7_FlowLoopsAreEnteredAtHeads.l0 k x0 x2 x3 x9 (wrap64 (x13 + 1))) else (if 0 ≤ x2 then (if x2 < (x9.length : Int) then ((linkhouseref7_Has.f k ((rd_T68 x9 x2).f1) ((rd_T64 ((rd_T62 x0 x3).f3) x13).f1)).bind fun t465 => (if t465 = true then (if ((rd_T64 ((rd_T62 x0 x3).f3) x13).f1) = ((rd_T68 x9 x2).f0) then (linkhouselaw7_FlowLoopsAreEnteredAtHeads.l0 k x0 x2 x3 x9 (wrap64 (x13 + 1))) else (some false)) else (linkhouselaw7_FlowLoopsAreEnteredAtHeads.l0 k x0 x2 x3 x9 (wrap64 (x13 + 1))))) else (none)) else (none))) else (none)) else ((linkhouselaw7_crossed.f k).bind fun t467 => (some t467))) else (none)) else (none)
end
set_option maxRecDepth 100000 in
def linkhouselaw7_FlowLoopsAreEnteredAtHeads.f (k : Nat) (l0 : List (S62)) (a1 : Int) (a2 : Int) (a3 : Int) : Option (Bool) := (flow_Loops.f k l0 a1).bind fun bt441 => ((flow_Reachable.f k l0 a1).bind fun bt447 => (if bt441.2.1 = 0 then (if bt447.2.1 = 0 then ((linkhouseref7_In.f a2 0 (wrap64 ((bt441.1.length : Int) - 1))).bind fun t453 => (if t453 = true then ((linkhouseref7_In.f a3 0 (wrap64 ((l0.length : Int) - 1))).bind fun t454 => (linkhouselaw7_FlowLoopsAreEnteredAtHeads.j0 k l0 a2 a3 bt441.1 bt447.1 (!t454))) else (linkhouselaw7_FlowLoopsAreEnteredAtHeads.j0 k l0 a2 a3 bt441.1 bt447.1 true))) else (linkhouselaw7_FlowLoopsAreEnteredAtHeads.j0 k l0 a2 a3 bt441.1 bt447.1 true)) else (linkhouselaw7_FlowLoopsAreEnteredAtHeads.j0 k l0 a2 a3 bt441.1 bt447.1 true)))
set_option maxRecDepth 100000 in
theorem linkhouselaw7_FlowLoopsAreEnteredAtHeads.mono_l : ∀ k, (∀ y0 y1 y2 y3 y4 y5, LeO (linkhouselaw7_FlowLoopsAreEnteredAtHeads.j0 k y0 y1 y2 y3 y4 y5) (linkhouselaw7_FlowLoopsAreEnteredAtHeads.j0 (k + 1) y0 y1 y2 y3 y4 y5)) ∧ (∀ y0 y1 y2 y3 y4, LeO (linkhouselaw7_FlowLoopsAreEnteredAtHeads.j1 k y0 y1 y2 y3 y4) (linkhouselaw7_FlowLoopsAreEnteredAtHeads.j1 (k + 1) y0 y1 y2 y3 y4)) ∧ (∀ y0 y1 y2 y3 y4, LeO (linkhouselaw7_FlowLoopsAreEnteredAtHeads.l0 k y0 y1 y2 y3 y4) (linkhouselaw7_FlowLoopsAreEnteredAtHeads.l0 (k + 1) y0 y1 y2 y3 y4))
 | 0 => ⟨fun _ _ _ _ _ _ r h => by simp [linkhouselaw7_FlowLoopsAreEnteredAtHeads.j0] at h, fun _ _ _ _ _ r h => by simp [linkhouselaw7_FlowLoopsAreEnteredAtHeads.j1] at h, fun _ _ _ _ _ r h => by simp [linkhouselaw7_FlowLoopsAreEnteredAtHeads.l0] at h⟩
 | k + 1 => by
  obtain ⟨ih0, ih1, ih2⟩ := linkhouselaw7_FlowLoopsAreEnteredAtHeads.mono_l k
  refine ⟨?_, ?_, ?_⟩
  ·
   intro y0 y1 y2 y3 y4 y5
   unfold linkhouselaw7_FlowLoopsAreEnteredAtHeads.j0
   repeat' first
   | (with_reducible exact ih0 _ _ _ _ _ _)
   | (with_reducible exact ih1 _ _ _ _ _)
   | (with_reducible exact ih2 _ _ _ _ _)
   | (with_reducible exact flow_Loops.mono _ _ _)
   | (with_reducible exact flow_Reachable.mono _ _ _)
   | (with_reducible exact linkhouselaw7_crossed.mono _)
   | (with_reducible exact linkhouseref7_Has.mono _ _ _)
   | (with_reducible exact LeO.refl _)
   | (with_reducible exact LeO.none _)
   | (with_reducible refine LeO.ite ?_ ?_)
   | (with_reducible refine LeO.bind ?_ (fun _ => ?_))
   | exact ih0 _ _ _ _ _ _
   | exact ih1 _ _ _ _ _
   | exact ih2 _ _ _ _ _
   | exact flow_Loops.mono _ _ _
   | exact flow_Reachable.mono _ _ _
   | exact linkhouselaw7_crossed.mono _
   | exact linkhouseref7_Has.mono _ _ _
   | exact LeO.none _
   | refine LeO.ite ?_ ?_
   | refine LeO.bind ?_ (fun _ => ?_)
  ·
   intro y0 y1 y2 y3 y4
   unfold linkhouselaw7_FlowLoopsAreEnteredAtHeads.j1
   repeat' first
   | (with_reducible exact ih0 _ _ _ _ _ _)
   | (with_reducible exact ih1 _ _ _ _ _)
   | (with_reducible exact ih2 _ _ _ _ _)
   | (with_reducible exact flow_Loops.mono _ _ _)
   | (with_reducible exact flow_Reachable.mono _ _ _)
   | (with_reducible exact linkhouselaw7_crossed.mono _)
   | (with_reducible exact linkhouseref7_Has.mono _ _ _)
   | (with_reducible exact LeO.refl _)
   | (with_reducible exact LeO.none _)
   | (with_reducible refine LeO.ite ?_ ?_)
   | (with_reducible refine LeO.bind ?_ (fun _ => ?_))
   | exact ih0 _ _ _ _ _ _
   | exact ih1 _ _ _ _ _
   | exact ih2 _ _ _ _ _
   | exact flow_Loops.mono _ _ _
   | exact flow_Reachable.mono _ _ _
   | exact linkhouselaw7_crossed.mono _
   | exact linkhouseref7_Has.mono _ _ _
   | exact LeO.none _
   | refine LeO.ite ?_ ?_
   | refine LeO.bind ?_ (fun _ => ?_)
  ·
   intro y0 y1 y2 y3 y4
   unfold linkhouselaw7_FlowLoopsAreEnteredAtHeads.l0
   repeat' first
   | (with_reducible exact ih0 _ _ _ _ _ _)
   | (with_reducible exact ih1 _ _ _ _ _)
   | (with_reducible exact ih2 _ _ _ _ _)
   | (with_reducible exact flow_Loops.mono _ _ _)
   | (with_reducible exact flow_Reachable.mono _ _ _)
   | (with_reducible exact linkhouselaw7_crossed.mono _)
   | (with_reducible exact linkhouseref7_Has.mono _ _ _)
   | (with_reducible exact LeO.refl _)
   | (with_reducible exact LeO.none _)
   | (with_reducible refine LeO.ite ?_ ?_)
   | (with_reducible refine LeO.bind ?_ (fun _ => ?_))
   | exact ih0 _ _ _ _ _ _
   | exact ih1 _ _ _ _ _
   | exact ih2 _ _ _ _ _
   | exact flow_Loops.mono _ _ _
   | exact flow_Reachable.mono _ _ _
   | exact linkhouselaw7_crossed.mono _
   | exact linkhouseref7_Has.mono _ _ _
   | exact LeO.none _
   | refine LeO.ite ?_ ?_
   | refine LeO.bind ?_ (fun _ => ?_)
set_option maxRecDepth 100000 in
theorem linkhouselaw7_FlowLoopsAreEnteredAtHeads.mono : ∀ a0 a1 a2 a3 k, LeO (linkhouselaw7_FlowLoopsAreEnteredAtHeads.f k a0 a1 a2 a3) (linkhouselaw7_FlowLoopsAreEnteredAtHeads.f (k + 1) a0 a1 a2 a3) := by
 intro a0 a1 a2 a3 k
 obtain ⟨ih0, ih1, ih2⟩ := linkhouselaw7_FlowLoopsAreEnteredAtHeads.mono_l k
 unfold linkhouselaw7_FlowLoopsAreEnteredAtHeads.f
 repeat' first
   | (with_reducible exact ih0 _ _ _ _ _ _)
   | (with_reducible exact ih1 _ _ _ _ _)
   | (with_reducible exact ih2 _ _ _ _ _)
   | (with_reducible exact flow_Loops.mono _ _ _)
   | (with_reducible exact flow_Reachable.mono _ _ _)
   | (with_reducible exact linkhouselaw7_crossed.mono _)
   | (with_reducible exact linkhouseref7_Has.mono _ _ _)
   | (with_reducible exact LeO.refl _)
   | (with_reducible exact LeO.none _)
   | (with_reducible refine LeO.ite ?_ ?_)
   | (with_reducible refine LeO.bind ?_ (fun _ => ?_))
   | exact ih0 _ _ _ _ _ _
   | exact ih1 _ _ _ _ _
   | exact ih2 _ _ _ _ _
   | exact flow_Loops.mono _ _ _
   | exact flow_Reachable.mono _ _ _
   | exact linkhouselaw7_crossed.mono _
   | exact linkhouseref7_Has.mono _ _ _
   | exact LeO.none _
   | refine LeO.ite ?_ ?_
   | refine LeO.bind ?_ (fun _ => ?_)
set_option maxHeartbeats 8000000 in
set_option maxRecDepth 100000 in
theorem linkhouselaw7_FlowLoopsAreEnteredAtHeads.calls (k : Nat) (A0 : Option Addr) (c0 : Nat) (l0 : List (S62)) (a1 : Int) (a2 : Int) (a3 : Int) (r : Bool) (w : World) (hr0 : Kd.C k62 w A0 l0.length l0) (hc0 : l0.length ≤ c0) (h : linkhouselaw7_FlowLoopsAreEnteredAtHeads.f k l0 a1 a2 a3 = some r) :
  Calls Try.prog 9 #[.slice A0 l0.length c0, .int .i64 a1, .int .i64 a2, .int .i64 a3] w fun e w' => e = .returned (.bool r) ∧ Below w.heap.size w w' := by
 have hu28 := Try.underlying28
 have hu64 := Try.underlying64
 have HR0 := Aside0.mk hr0
 have HC0 := Aside0.mk hc0
 clear hr0 hc0
 have HB := Aside0.mk (Below.refl w.heap.size w)
 have H : ((flow_Loops.f k l0 a1).bind fun bt441 => ((flow_Reachable.f k l0 a1).bind fun bt447 => (if bt441.2.1 = 0 then (if bt447.2.1 = 0 then ((linkhouseref7_In.f a2 0 (wrap64 ((bt441.1.length : Int) - 1))).bind fun t453 => (if t453 = true then ((linkhouseref7_In.f a3 0 (wrap64 ((l0.length : Int) - 1))).bind fun t454 => (linkhouselaw7_FlowLoopsAreEnteredAtHeads.j0 k l0 a2 a3 bt441.1 bt447.1 (!t454))) else (linkhouselaw7_FlowLoopsAreEnteredAtHeads.j0 k l0 a2 a3 bt441.1 bt447.1 true))) else (linkhouselaw7_FlowLoopsAreEnteredAtHeads.j0 k l0 a2 a3 bt441.1 bt447.1 true)) else (linkhouselaw7_FlowLoopsAreEnteredAtHeads.j0 k l0 a2 a3 bt441.1 bt447.1 true)))) = some r := h
 clear h
 replace H := Option.bind_eq_some_iff.mp H
 obtain ⟨⟨t441, t444, t445⟩, A50, H⟩ := H
 replace H : ((flow_Reachable.f k l0 a1).bind fun bt447 => (if t444 = 0 then (if bt447.2.1 = 0 then ((linkhouseref7_In.f a2 0 (wrap64 ((t441.length : Int) - 1))).bind fun t453 => (if t453 = true then ((linkhouseref7_In.f a3 0 (wrap64 ((l0.length : Int) - 1))).bind fun t454 => (linkhouselaw7_FlowLoopsAreEnteredAtHeads.j0 k l0 a2 a3 t441 bt447.1 (!t454))) else (linkhouselaw7_FlowLoopsAreEnteredAtHeads.j0 k l0 a2 a3 t441 bt447.1 true))) else (linkhouselaw7_FlowLoopsAreEnteredAtHeads.j0 k l0 a2 a3 t441 bt447.1 true)) else (linkhouselaw7_FlowLoopsAreEnteredAtHeads.j0 k l0 a2 a3 t441 bt447.1 true))) = some r := H
 have A5 := Aside0.mk A50
 clear A50
 replace H := Option.bind_eq_some_iff.mp H
 obtain ⟨⟨t447, t450, t451⟩, A60, H⟩ := H
 replace H : (if t444 = 0 then (if t450 = 0 then ((linkhouseref7_In.f a2 0 (wrap64 ((t441.length : Int) - 1))).bind fun t453 => (if t453 = true then ((linkhouseref7_In.f a3 0 (wrap64 ((l0.length : Int) - 1))).bind fun t454 => (linkhouselaw7_FlowLoopsAreEnteredAtHeads.j0 k l0 a2 a3 t441 t447 (!t454))) else (linkhouselaw7_FlowLoopsAreEnteredAtHeads.j0 k l0 a2 a3 t441 t447 true))) else (linkhouselaw7_FlowLoopsAreEnteredAtHeads.j0 k l0 a2 a3 t441 t447 true)) else (linkhouselaw7_FlowLoopsAreEnteredAtHeads.j0 k l0 a2 a3 t441 t447 true)) = some r := H
 have A6 := Aside0.mk A60
 clear A60
 have HC7 := Aside0.mk H
 clear H
 go_enter Try.func9, Try.ntmps9
 go_upto_region 3 with (first | (go_at_call 24; (with_reducible refine (flow_Loops.calls k _ _ l0 a1 t441 t444 t445 _ ?side1 ?side2 A5.out).mono ?_); (case side1 => repeat (first | exact HR0.out | (with_reducible refine Kd.C_alloc ?_ _) | (with_reducible refine Kd.C_drewN ?_ _) | (with_reducible refine Kd.C_drew ?_))); (case side2 => exact HC0.out); rintro e w8 ⟨v442, rfl, ho0, hb⟩; have n0_ := Aside0.mk (Kd.S_lower ho0 (below_size (bw_ HB))); have n1_ := Aside0.mk (below_step (bw_ HB) hb); clear HB; have HO443 := n0_; have HB := n1_; clear n0_ n1_; (try clear hb); (try clear hb2); (try clear hk); (try clear hi); (try clear ho0)) | ((with_reducible refine gate_dst (N := 10) rfl ?_); (try (refine gate_guard (by rfl) ?_; dsimp only)); refine bx_ (N := 10) (cs := #[.int .i64 0, .int .i64 0]) (t := 28) ?_; intro gb446 hg w9 hbox hb; have n0_ := Aside0.mk (Kd.S_below (by (with_reducible repeat (first | apply Kd.S_alloc | apply Kd.S_drewN | apply Kd.S_drew)); exact HO443.out) hb); have n1_ := Aside0.mk (below_step (bw_ HB) hb); have n2_ := Aside0.mk (hbox); have n3_ := Aside0.mk ((by rw [hg]; exact (below_size (bw_ HB)) : w.heap.size ≤ gb446)); have n4_ := Aside0.mk ((by rw [hg]; exact (below_size (bw_ HB)) : w.heap.size ≤ gb446)); clear HO443; clear HB; have HO443 := n0_; have HB := n1_; have BK446 := n2_; have GW446 := n3_; have GE446 := n4_; clear n0_ n1_ n2_ n3_ n4_; clear hb hbox hg; obtain ⟨hcz10_0, hcz10_1, hfz10_0, hfz10_1⟩ := cz2_ BK446) | (go_at_call 27; (with_reducible refine (flow_Reachable.calls k _ _ l0 a1 t447 t450 t451 _ ?side1 ?side2 A6.out).mono ?_); (case side1 => exact cb_ HR0 HB); (case side2 => exact HC0.out); rintro e w11 ⟨v448, rfl, ho0, hb⟩; have n0_ := Aside0.mk (Kd.S_below (by (with_reducible repeat (first | apply Kd.S_alloc | apply Kd.S_drewN | apply Kd.S_drew)); exact (Kd.S_mono (Kd.S_far (p := ⟨gb446, 1, none⟩) (Kd.S_far (p := ⟨gb446, 0, none⟩) (Kd.S_types HO443.out BK446.out (by decide)) (fun _ hk => hk.2) (.int .i64 t444)) (fun _ hk => hk.2) (.int .i64 t445)) (fun _ h_ => h_.1))) hb); have n1_ := Aside0.mk (Kd.R_lower ho0 (below_size (bw_ HB))); have n2_ := Aside0.mk (blk_below (g := gb446) (o := .cells #[.int .i64 t444, .int .i64 t445] 28 (0, 0)) (bk_ BK446) hb); have n3_ := Aside0.mk (below_step (bw_ HB) hb); clear HO443; clear BK446; clear HB; have HO443 := n0_; have HO449 := n1_; have BK446 := n2_; have HB := n3_; clear n0_ n1_ n2_ n3_; (try clear hb); (try clear hb2); (try clear hk); (try clear hi); (try clear ho0)) | ((with_reducible refine gate_dst (N := 12) rfl ?_); (try (refine gate_guard (by rfl) ?_; dsimp only)); refine bx_ (N := 12) (cs := #[.int .i64 0, .int .i64 0]) (t := 28) ?_; intro gb452 hg w12 hbox hb; have n0_ := Aside0.mk (Kd.S_below (by (with_reducible repeat (first | apply Kd.S_alloc | apply Kd.S_drewN | apply Kd.S_drew)); exact HO443.out) hb); have n1_ := Aside0.mk (Kd.R_below (by (with_reducible repeat (first | apply Kd.R_alloc | apply Kd.R_drewN | apply Kd.R_drew)); exact HO449.out) hb); have n2_ := Aside0.mk (blk_below (g := gb446) (o := .cells #[.int .i64 t444, .int .i64 t445] 28 (0, 0)) (bk_ BK446) hb); have n3_ := Aside0.mk (below_step (bw_ HB) hb); have n4_ := Aside0.mk (hbox); have n5_ := Aside0.mk ((by rw [hg]; exact (below_size (bw_ HB)) : w.heap.size ≤ gb452)); have n6_ := Aside0.mk ((by rw [hg]; exact (below_size (bw_ HB)) : w.heap.size ≤ gb452)); have n7_ := Aside0.mk ((by rw [hg]; exact Nat.ne_of_lt (blk_lt (g := gb446) (o := .cells #[.int .i64 t444, .int .i64 t445] 28 (0, 0)) (bk_ BK446)) : gb446 ≠ gb452)); have n8_ := Aside0.mk ((by rw [hg]; exact Nat.ne_of_gt (blk_lt (g := gb446) (o := .cells #[.int .i64 t444, .int .i64 t445] 28 (0, 0)) (bk_ BK446)) : gb452 ≠ gb446)); clear HO443; clear HO449; clear BK446; clear HB; have HO443 := n0_; have HO449 := n1_; have BK446 := n2_; have HB := n3_; have BK452 := n4_; have GW452 := n5_; have GE452 := n6_; have NB446_452 := n7_; have NB452_446 := n8_; clear n0_ n1_ n2_ n3_ n4_ n5_ n6_ n7_ n8_; clear hb hbox hg; have hnb13 := NB452_446.out; have hnc13 := NB446_452.out; obtain ⟨hcz14_0, hcz14_1, hfz14_0, hfz14_1⟩ := cz2_ BK452))
 repeat (go_quiet (first | (go_at_call 24; (with_reducible refine (flow_Loops.calls k _ _ l0 a1 t441 t444 t445 _ ?side1 ?side2 A5.out).mono ?_); (case side1 => repeat (first | exact HR0.out | (with_reducible refine Kd.C_alloc ?_ _) | (with_reducible refine Kd.C_drewN ?_ _) | (with_reducible refine Kd.C_drew ?_))); (case side2 => exact HC0.out); rintro e w8 ⟨v442, rfl, ho0, hb⟩; have n0_ := Aside0.mk (Kd.S_lower ho0 (below_size (bw_ HB))); have n1_ := Aside0.mk (below_step (bw_ HB) hb); clear HB; have HO443 := n0_; have HB := n1_; clear n0_ n1_; (try clear hb); (try clear hb2); (try clear hk); (try clear hi); (try clear ho0)) | ((with_reducible refine gate_dst (N := 10) rfl ?_); (try (refine gate_guard (by rfl) ?_; dsimp only)); refine bx_ (N := 10) (cs := #[.int .i64 0, .int .i64 0]) (t := 28) ?_; intro gb446 hg w9 hbox hb; have n0_ := Aside0.mk (Kd.S_below (by (with_reducible repeat (first | apply Kd.S_alloc | apply Kd.S_drewN | apply Kd.S_drew)); exact HO443.out) hb); have n1_ := Aside0.mk (below_step (bw_ HB) hb); have n2_ := Aside0.mk (hbox); have n3_ := Aside0.mk ((by rw [hg]; exact (below_size (bw_ HB)) : w.heap.size ≤ gb446)); have n4_ := Aside0.mk ((by rw [hg]; exact (below_size (bw_ HB)) : w.heap.size ≤ gb446)); clear HO443; clear HB; have HO443 := n0_; have HB := n1_; have BK446 := n2_; have GW446 := n3_; have GE446 := n4_; clear n0_ n1_ n2_ n3_ n4_; clear hb hbox hg; obtain ⟨hcz10_0, hcz10_1, hfz10_0, hfz10_1⟩ := cz2_ BK446) | (go_at_call 27; (with_reducible refine (flow_Reachable.calls k _ _ l0 a1 t447 t450 t451 _ ?side1 ?side2 A6.out).mono ?_); (case side1 => exact cb_ HR0 HB); (case side2 => exact HC0.out); rintro e w11 ⟨v448, rfl, ho0, hb⟩; have n0_ := Aside0.mk (Kd.S_below (by (with_reducible repeat (first | apply Kd.S_alloc | apply Kd.S_drewN | apply Kd.S_drew)); exact (Kd.S_mono (Kd.S_far (p := ⟨gb446, 1, none⟩) (Kd.S_far (p := ⟨gb446, 0, none⟩) (Kd.S_types HO443.out BK446.out (by decide)) (fun _ hk => hk.2) (.int .i64 t444)) (fun _ hk => hk.2) (.int .i64 t445)) (fun _ h_ => h_.1))) hb); have n1_ := Aside0.mk (Kd.R_lower ho0 (below_size (bw_ HB))); have n2_ := Aside0.mk (blk_below (g := gb446) (o := .cells #[.int .i64 t444, .int .i64 t445] 28 (0, 0)) (bk_ BK446) hb); have n3_ := Aside0.mk (below_step (bw_ HB) hb); clear HO443; clear BK446; clear HB; have HO443 := n0_; have HO449 := n1_; have BK446 := n2_; have HB := n3_; clear n0_ n1_ n2_ n3_; (try clear hb); (try clear hb2); (try clear hk); (try clear hi); (try clear ho0)) | ((with_reducible refine gate_dst (N := 12) rfl ?_); (try (refine gate_guard (by rfl) ?_; dsimp only)); refine bx_ (N := 12) (cs := #[.int .i64 0, .int .i64 0]) (t := 28) ?_; intro gb452 hg w12 hbox hb; have n0_ := Aside0.mk (Kd.S_below (by (with_reducible repeat (first | apply Kd.S_alloc | apply Kd.S_drewN | apply Kd.S_drew)); exact HO443.out) hb); have n1_ := Aside0.mk (Kd.R_below (by (with_reducible repeat (first | apply Kd.R_alloc | apply Kd.R_drewN | apply Kd.R_drew)); exact HO449.out) hb); have n2_ := Aside0.mk (blk_below (g := gb446) (o := .cells #[.int .i64 t444, .int .i64 t445] 28 (0, 0)) (bk_ BK446) hb); have n3_ := Aside0.mk (below_step (bw_ HB) hb); have n4_ := Aside0.mk (hbox); have n5_ := Aside0.mk ((by rw [hg]; exact (below_size (bw_ HB)) : w.heap.size ≤ gb452)); have n6_ := Aside0.mk ((by rw [hg]; exact (below_size (bw_ HB)) : w.heap.size ≤ gb452)); have n7_ := Aside0.mk ((by rw [hg]; exact Nat.ne_of_lt (blk_lt (g := gb446) (o := .cells #[.int .i64 t444, .int .i64 t445] 28 (0, 0)) (bk_ BK446)) : gb446 ≠ gb452)); have n8_ := Aside0.mk ((by rw [hg]; exact Nat.ne_of_gt (blk_lt (g := gb446) (o := .cells #[.int .i64 t444, .int .i64 t445] 28 (0, 0)) (bk_ BK446)) : gb452 ≠ gb446)); clear HO443; clear HO449; clear BK446; clear HB; have HO443 := n0_; have HO449 := n1_; have BK446 := n2_; have HB := n3_; have BK452 := n4_; have GW452 := n5_; have GE452 := n6_; have NB446_452 := n7_; have NB452_446 := n8_; clear n0_ n1_ n2_ n3_ n4_ n5_ n6_ n7_ n8_; clear hb hbox hg; have hnb13 := NB452_446.out; have hnc13 := NB446_452.out; obtain ⟨hcz14_0, hcz14_1, hfz14_0, hfz14_1⟩ := cz2_ BK452)); go_upto_region 3 with (first | (go_at_call 24; (with_reducible refine (flow_Loops.calls k _ _ l0 a1 t441 t444 t445 _ ?side1 ?side2 A5.out).mono ?_); (case side1 => repeat (first | exact HR0.out | (with_reducible refine Kd.C_alloc ?_ _) | (with_reducible refine Kd.C_drewN ?_ _) | (with_reducible refine Kd.C_drew ?_))); (case side2 => exact HC0.out); rintro e w8 ⟨v442, rfl, ho0, hb⟩; have n0_ := Aside0.mk (Kd.S_lower ho0 (below_size (bw_ HB))); have n1_ := Aside0.mk (below_step (bw_ HB) hb); clear HB; have HO443 := n0_; have HB := n1_; clear n0_ n1_; (try clear hb); (try clear hb2); (try clear hk); (try clear hi); (try clear ho0)) | ((with_reducible refine gate_dst (N := 10) rfl ?_); (try (refine gate_guard (by rfl) ?_; dsimp only)); refine bx_ (N := 10) (cs := #[.int .i64 0, .int .i64 0]) (t := 28) ?_; intro gb446 hg w9 hbox hb; have n0_ := Aside0.mk (Kd.S_below (by (with_reducible repeat (first | apply Kd.S_alloc | apply Kd.S_drewN | apply Kd.S_drew)); exact HO443.out) hb); have n1_ := Aside0.mk (below_step (bw_ HB) hb); have n2_ := Aside0.mk (hbox); have n3_ := Aside0.mk ((by rw [hg]; exact (below_size (bw_ HB)) : w.heap.size ≤ gb446)); have n4_ := Aside0.mk ((by rw [hg]; exact (below_size (bw_ HB)) : w.heap.size ≤ gb446)); clear HO443; clear HB; have HO443 := n0_; have HB := n1_; have BK446 := n2_; have GW446 := n3_; have GE446 := n4_; clear n0_ n1_ n2_ n3_ n4_; clear hb hbox hg; obtain ⟨hcz10_0, hcz10_1, hfz10_0, hfz10_1⟩ := cz2_ BK446) | (go_at_call 27; (with_reducible refine (flow_Reachable.calls k _ _ l0 a1 t447 t450 t451 _ ?side1 ?side2 A6.out).mono ?_); (case side1 => exact cb_ HR0 HB); (case side2 => exact HC0.out); rintro e w11 ⟨v448, rfl, ho0, hb⟩; have n0_ := Aside0.mk (Kd.S_below (by (with_reducible repeat (first | apply Kd.S_alloc | apply Kd.S_drewN | apply Kd.S_drew)); exact (Kd.S_mono (Kd.S_far (p := ⟨gb446, 1, none⟩) (Kd.S_far (p := ⟨gb446, 0, none⟩) (Kd.S_types HO443.out BK446.out (by decide)) (fun _ hk => hk.2) (.int .i64 t444)) (fun _ hk => hk.2) (.int .i64 t445)) (fun _ h_ => h_.1))) hb); have n1_ := Aside0.mk (Kd.R_lower ho0 (below_size (bw_ HB))); have n2_ := Aside0.mk (blk_below (g := gb446) (o := .cells #[.int .i64 t444, .int .i64 t445] 28 (0, 0)) (bk_ BK446) hb); have n3_ := Aside0.mk (below_step (bw_ HB) hb); clear HO443; clear BK446; clear HB; have HO443 := n0_; have HO449 := n1_; have BK446 := n2_; have HB := n3_; clear n0_ n1_ n2_ n3_; (try clear hb); (try clear hb2); (try clear hk); (try clear hi); (try clear ho0)) | ((with_reducible refine gate_dst (N := 12) rfl ?_); (try (refine gate_guard (by rfl) ?_; dsimp only)); refine bx_ (N := 12) (cs := #[.int .i64 0, .int .i64 0]) (t := 28) ?_; intro gb452 hg w12 hbox hb; have n0_ := Aside0.mk (Kd.S_below (by (with_reducible repeat (first | apply Kd.S_alloc | apply Kd.S_drewN | apply Kd.S_drew)); exact HO443.out) hb); have n1_ := Aside0.mk (Kd.R_below (by (with_reducible repeat (first | apply Kd.R_alloc | apply Kd.R_drewN | apply Kd.R_drew)); exact HO449.out) hb); have n2_ := Aside0.mk (blk_below (g := gb446) (o := .cells #[.int .i64 t444, .int .i64 t445] 28 (0, 0)) (bk_ BK446) hb); have n3_ := Aside0.mk (below_step (bw_ HB) hb); have n4_ := Aside0.mk (hbox); have n5_ := Aside0.mk ((by rw [hg]; exact (below_size (bw_ HB)) : w.heap.size ≤ gb452)); have n6_ := Aside0.mk ((by rw [hg]; exact (below_size (bw_ HB)) : w.heap.size ≤ gb452)); have n7_ := Aside0.mk ((by rw [hg]; exact Nat.ne_of_lt (blk_lt (g := gb446) (o := .cells #[.int .i64 t444, .int .i64 t445] 28 (0, 0)) (bk_ BK446)) : gb446 ≠ gb452)); have n8_ := Aside0.mk ((by rw [hg]; exact Nat.ne_of_gt (blk_lt (g := gb446) (o := .cells #[.int .i64 t444, .int .i64 t445] 28 (0, 0)) (bk_ BK446)) : gb452 ≠ gb446)); clear HO443; clear HO449; clear BK446; clear HB; have HO443 := n0_; have HO449 := n1_; have BK446 := n2_; have HB := n3_; have BK452 := n4_; have GW452 := n5_; have GE452 := n6_; have NB446_452 := n7_; have NB452_446 := n8_; clear n0_ n1_ n2_ n3_ n4_ n5_ n6_ n7_ n8_; clear hb hbox hg; have hnb13 := NB452_446.out; have hnc13 := NB446_452.out; obtain ⟨hcz14_0, hcz14_1, hfz14_0, hfz14_1⟩ := cz2_ BK452)))
 (try simp only [Act.put, List.setIfInBounds_toArray, List.set_cons_zero, List.set_cons_succ])
 go_cut [50] (fun v50 wc => ∃ (kq : Nat) (x50_6 : Bool), v50 = .bool x50_6 ∧ Aside0 (linkhouselaw7_FlowLoopsAreEnteredAtHeads.j0 kq l0 a2 a3 t441 t447 x50_6 = some r) ∧ Aside0 (kq ≤ k) ∧ Aside0 (Kd.S k68 68 wc w.heap.size (fun _ => True) v442 t441) ∧ Aside0 (Kd.R Kd.bool 4 wc w.heap.size (fun _ => True) v448 t447) ∧ Aside0 (wc.heap[gb446]? = some (.cells #[.int .i64 t444, .int .i64 t445] 28 (0, 0))) ∧ Aside0 (wc.heap[gb452]? = some (.cells #[.int .i64 t450, .int .i64 t451] 28 (0, 0))) ∧ Aside0 (Below w.heap.size w wc))
 case first =>
  have H := HC7.out
  clear HC7
  by_cases c15 : t444 = 0
  ·
   rw [if_pos c15] at H
   have c15b0 : (t444 == 0) = true := beq_iff_eq.mpr c15
   have c15b1 : (t444 != 0) = false := bne_eq_false_iff_eq.mpr c15
   clear c15
   (first | rw [c15b0] | (simp only [i64_w, i32_w]; rw [c15b0]) | skip)
   by_cases c16 : t450 = 0
   ·
    rw [if_pos c16] at H
    have c16b0 : (t450 == 0) = true := beq_iff_eq.mpr c16
    have c16b1 : (t450 != 0) = false := bne_eq_false_iff_eq.mpr c16
    clear c16
    replace H := Option.bind_eq_some_iff.mp H
    obtain ⟨t453, A170, H⟩ := H
    replace H : (if t453 = true then ((linkhouseref7_In.f a3 0 (wrap64 ((l0.length : Int) - 1))).bind fun t454 => (linkhouselaw7_FlowLoopsAreEnteredAtHeads.j0 k l0 a2 a3 t441 t447 (!t454))) else (linkhouselaw7_FlowLoopsAreEnteredAtHeads.j0 k l0 a2 a3 t441 t447 true)) = some r := H
    have A17 := Aside0.mk A170
    clear A170
    by_cases c18 : t453 = true
    ·
     subst c18
     have H1 : ((linkhouseref7_In.f a3 0 (wrap64 ((l0.length : Int) - 1))).bind fun t454 => (linkhouselaw7_FlowLoopsAreEnteredAtHeads.j0 k l0 a2 a3 t441 t447 (!t454))) = some r := by rw [if_pos rfl] at H; exact H
     clear H
     have H := H1
     clear H1
     replace H := Option.bind_eq_some_iff.mp H
     obtain ⟨t454, A190, H⟩ := H
     replace H : (linkhouselaw7_FlowLoopsAreEnteredAtHeads.j0 k l0 a2 a3 t441 t447 (!t454)) = some r := H
     have A19 := Aside0.mk A190
     clear A190
     have H' := Aside0.mk H
     clear H
     have hnb20 := NB446_452.out
     have hnc20 := NB452_446.out
     obtain ⟨hcz21_0, hcz21_1, hfz21_0, hfz21_1⟩ := cz2_ BK446
     obtain ⟨hcz22_0, hcz22_1, hfz22_0, hfz22_1⟩ := cz2_ BK452
     obtain ⟨Ao23, co23, eo23⟩ := Kd.S_slice HO443.out
     subst eo23
     go_wp2_with (first | (go_at_call 16; (with_reducible refine (linkhouseref7_In.calls a2 0 (wrap64 ((t441.length : Int) - 1)) true _ A17.out).mono ?_); rintro e w' ⟨rfl, ⟨nd, rfl⟩⟩; (try first | exact ⟨rfl, _, World.drewN_drewN _ _ _⟩ | exact ⟨rfl, _, Eq.trans (World.drewN_drewN _ _ _) (congrArg (World.drewN _) (Nat.add_assoc _ _ _))⟩)) | (go_at_call 16; (with_reducible refine (linkhouseref7_In.calls a3 0 (wrap64 ((l0.length : Int) - 1)) t454 _ A19.out).mono ?_); rintro e w' ⟨rfl, ⟨nd, rfl⟩⟩; (try first | exact ⟨rfl, _, World.drewN_drewN _ _ _⟩ | exact ⟨rfl, _, Eq.trans (World.drewN_drewN _ _ _) (congrArg (World.drewN _) (Nat.add_assoc _ _ _))⟩)))
     repeat (go_quiet (first | (go_at_call 16; (with_reducible refine (linkhouseref7_In.calls a2 0 (wrap64 ((t441.length : Int) - 1)) true _ A17.out).mono ?_); rintro e w' ⟨rfl, ⟨nd, rfl⟩⟩; (try first | exact ⟨rfl, _, World.drewN_drewN _ _ _⟩ | exact ⟨rfl, _, Eq.trans (World.drewN_drewN _ _ _) (congrArg (World.drewN _) (Nat.add_assoc _ _ _))⟩)) | (go_at_call 16; (with_reducible refine (linkhouseref7_In.calls a3 0 (wrap64 ((l0.length : Int) - 1)) t454 _ A19.out).mono ?_); rintro e w' ⟨rfl, ⟨nd, rfl⟩⟩; (try first | exact ⟨rfl, _, World.drewN_drewN _ _ _⟩ | exact ⟨rfl, _, Eq.trans (World.drewN_drewN _ _ _) (congrArg (World.drewN _) (Nat.add_assoc _ _ _))⟩))); try go_wp2_with (first | (go_at_call 16; (with_reducible refine (linkhouseref7_In.calls a2 0 (wrap64 ((t441.length : Int) - 1)) true _ A17.out).mono ?_); rintro e w' ⟨rfl, ⟨nd, rfl⟩⟩; (try first | exact ⟨rfl, _, World.drewN_drewN _ _ _⟩ | exact ⟨rfl, _, Eq.trans (World.drewN_drewN _ _ _) (congrArg (World.drewN _) (Nat.add_assoc _ _ _))⟩)) | (go_at_call 16; (with_reducible refine (linkhouseref7_In.calls a3 0 (wrap64 ((l0.length : Int) - 1)) t454 _ A19.out).mono ?_); rintro e w' ⟨rfl, ⟨nd, rfl⟩⟩; (try first | exact ⟨rfl, _, World.drewN_drewN _ _ _⟩ | exact ⟨rfl, _, Eq.trans (World.drewN_drewN _ _ _) (congrArg (World.drewN _) (Nat.add_assoc _ _ _))⟩))))
     go_meet
     case rel => exact ⟨_, (!t454), rs_, H', le_, ⟨by (with_reducible repeat (first | apply Kd.S_alloc | apply Kd.S_drewN | apply Kd.S_drew)); exact Kd.S_mono (Kd.S_far (p := ⟨gb452, 1, none⟩) (Kd.S_far (p := ⟨gb452, 0, none⟩) (Kd.S_types HO443.out BK452.out (by decide)) (fun _ hk => hk.2) (.int .i64 t450)) (fun _ hk => hk.2) (.int .i64 t451)) (fun _ hk => trivial)⟩, ⟨by (with_reducible repeat (first | apply Kd.R_alloc | apply Kd.R_drewN | apply Kd.R_drew)); exact Kd.R_mono (Kd.R_far (p := ⟨gb452, 1, none⟩) (Kd.R_far (p := ⟨gb452, 0, none⟩) (Kd.R_types HO449.out BK452.out (by decide)) (fun _ hk => hk.2) (.int .i64 t450)) (fun _ hk => hk.2) (.int .i64 t451)) (fun _ hk => trivial)⟩, ⟨bk_ BK446⟩, ⟨bk_ BK452⟩, ⟨bw_ HB⟩⟩
    ·
     replace c18 := Bool.eq_false_iff.mpr c18
     subst c18
     have H1 : (linkhouselaw7_FlowLoopsAreEnteredAtHeads.j0 k l0 a2 a3 t441 t447 true) = some r := by rw [if_neg (show ¬ (false = true) by decide)] at H; exact H
     clear H
     have H := H1
     clear H1
     have H' := Aside0.mk H
     clear H
     have hnb24 := NB446_452.out
     have hnc24 := NB452_446.out
     obtain ⟨hcz25_0, hcz25_1, hfz25_0, hfz25_1⟩ := cz2_ BK446
     obtain ⟨hcz26_0, hcz26_1, hfz26_0, hfz26_1⟩ := cz2_ BK452
     obtain ⟨Ao27, co27, eo27⟩ := Kd.S_slice HO443.out
     subst eo27
     go_wp2_with (first | (go_at_call 16; (with_reducible refine (linkhouseref7_In.calls a2 0 (wrap64 ((t441.length : Int) - 1)) false _ A17.out).mono ?_); rintro e w' ⟨rfl, ⟨nd, rfl⟩⟩; (try first | exact ⟨rfl, _, World.drewN_drewN _ _ _⟩ | exact ⟨rfl, _, Eq.trans (World.drewN_drewN _ _ _) (congrArg (World.drewN _) (Nat.add_assoc _ _ _))⟩)))
     repeat (go_quiet (first | (go_at_call 16; (with_reducible refine (linkhouseref7_In.calls a2 0 (wrap64 ((t441.length : Int) - 1)) false _ A17.out).mono ?_); rintro e w' ⟨rfl, ⟨nd, rfl⟩⟩; (try first | exact ⟨rfl, _, World.drewN_drewN _ _ _⟩ | exact ⟨rfl, _, Eq.trans (World.drewN_drewN _ _ _) (congrArg (World.drewN _) (Nat.add_assoc _ _ _))⟩))); try go_wp2_with (first | (go_at_call 16; (with_reducible refine (linkhouseref7_In.calls a2 0 (wrap64 ((t441.length : Int) - 1)) false _ A17.out).mono ?_); rintro e w' ⟨rfl, ⟨nd, rfl⟩⟩; (try first | exact ⟨rfl, _, World.drewN_drewN _ _ _⟩ | exact ⟨rfl, _, Eq.trans (World.drewN_drewN _ _ _) (congrArg (World.drewN _) (Nat.add_assoc _ _ _))⟩))))
     go_meet
     case rel => exact ⟨_, (true), rs_, H', le_, ⟨by (with_reducible repeat (first | apply Kd.S_alloc | apply Kd.S_drewN | apply Kd.S_drew)); exact Kd.S_mono (Kd.S_far (p := ⟨gb452, 1, none⟩) (Kd.S_far (p := ⟨gb452, 0, none⟩) (Kd.S_types HO443.out BK452.out (by decide)) (fun _ hk => hk.2) (.int .i64 t450)) (fun _ hk => hk.2) (.int .i64 t451)) (fun _ hk => trivial)⟩, ⟨by (with_reducible repeat (first | apply Kd.R_alloc | apply Kd.R_drewN | apply Kd.R_drew)); exact Kd.R_mono (Kd.R_far (p := ⟨gb452, 1, none⟩) (Kd.R_far (p := ⟨gb452, 0, none⟩) (Kd.R_types HO449.out BK452.out (by decide)) (fun _ hk => hk.2) (.int .i64 t450)) (fun _ hk => hk.2) (.int .i64 t451)) (fun _ hk => trivial)⟩, ⟨bk_ BK446⟩, ⟨bk_ BK452⟩, ⟨bw_ HB⟩⟩
   ·
    rw [if_neg c16] at H
    have c16b0 : (t450 == 0) = false := beq_eq_false_iff_ne.mpr c16
    have c16b1 : (t450 != 0) = true := bne_iff_ne.mpr c16
    have H' := Aside0.mk H
    clear H
    have hnb28 := NB446_452.out
    have hnc28 := NB452_446.out
    obtain ⟨hcz29_0, hcz29_1, hfz29_0, hfz29_1⟩ := cz2_ BK446
    obtain ⟨hcz30_0, hcz30_1, hfz30_0, hfz30_1⟩ := cz2_ BK452
    go_wp2
    repeat (go_quiet (fail); try go_wp2)
    go_meet
    case rel => exact ⟨_, (true), rs_, H', le_, ⟨by (with_reducible repeat (first | apply Kd.S_alloc | apply Kd.S_drewN | apply Kd.S_drew)); exact Kd.S_mono (Kd.S_far (p := ⟨gb452, 1, none⟩) (Kd.S_far (p := ⟨gb452, 0, none⟩) (Kd.S_types HO443.out BK452.out (by decide)) (fun _ hk => hk.2) (.int .i64 t450)) (fun _ hk => hk.2) (.int .i64 t451)) (fun _ hk => trivial)⟩, ⟨by (with_reducible repeat (first | apply Kd.R_alloc | apply Kd.R_drewN | apply Kd.R_drew)); exact Kd.R_mono (Kd.R_far (p := ⟨gb452, 1, none⟩) (Kd.R_far (p := ⟨gb452, 0, none⟩) (Kd.R_types HO449.out BK452.out (by decide)) (fun _ hk => hk.2) (.int .i64 t450)) (fun _ hk => hk.2) (.int .i64 t451)) (fun _ hk => trivial)⟩, ⟨bk_ BK446⟩, ⟨bk_ BK452⟩, ⟨bw_ HB⟩⟩
  ·
   rw [if_neg c15] at H
   have c15b0 : (t444 == 0) = false := beq_eq_false_iff_ne.mpr c15
   have c15b1 : (t444 != 0) = true := bne_iff_ne.mpr c15
   (first | rw [c15b0] | (simp only [i64_w, i32_w]; rw [c15b0]) | skip)
   have H' := Aside0.mk H
   clear H
   have hnb31 := NB446_452.out
   have hnc31 := NB452_446.out
   obtain ⟨hcz32_0, hcz32_1, hfz32_0, hfz32_1⟩ := cz2_ BK446
   go_wp2
   repeat (go_quiet (fail); try go_wp2)
   go_meet
   case rel => exact ⟨_, (true), rs_, H', le_, ⟨by (with_reducible repeat (first | apply Kd.S_alloc | apply Kd.S_drewN | apply Kd.S_drew)); exact Kd.S_mono (Kd.S_far (p := ⟨gb452, 1, none⟩) (Kd.S_far (p := ⟨gb452, 0, none⟩) (Kd.S_types HO443.out BK452.out (by decide)) (fun _ hk => hk.2) (.int .i64 t450)) (fun _ hk => hk.2) (.int .i64 t451)) (fun _ hk => trivial)⟩, ⟨by (with_reducible repeat (first | apply Kd.R_alloc | apply Kd.R_drewN | apply Kd.R_drew)); exact Kd.R_mono (Kd.R_far (p := ⟨gb452, 1, none⟩) (Kd.R_far (p := ⟨gb452, 0, none⟩) (Kd.R_types HO449.out BK452.out (by decide)) (fun _ hk => hk.2) (.int .i64 t450)) (fun _ hk => hk.2) (.int .i64 t451)) (fun _ hk => trivial)⟩, ⟨bk_ BK446⟩, ⟨bk_ BK452⟩, ⟨bw_ HB⟩⟩
 case rest =>
  clear HC7
  (try clear c1); (try clear c2); (try clear p2); (try clear c3); (try clear p6); (try clear c9); (try clear c13); (try clear c15); (try clear c15b0); (try clear c15b1); (try clear c16); (try clear c16b0); (try clear c16b1); (try clear c18); (try clear c20); (try clear c24); (try clear c28); (try clear c31); (try clear hcz10_0); (try clear hcz10_1); (try clear hcz14_0); (try clear hcz14_1); (try clear hcz21_0); (try clear hcz21_1); (try clear hcz22_0); (try clear hcz22_1); (try clear hcz25_0); (try clear hcz25_1); (try clear hcz26_0); (try clear hcz26_1); (try clear hcz29_0); (try clear hcz29_1); (try clear hcz30_0); (try clear hcz30_1); (try clear hcz32_0); (try clear hcz32_1); (try clear hfz10_0); (try clear hfz10_1); (try clear hfz14_0); (try clear hfz14_1); (try clear hfz21_0); (try clear hfz21_1); (try clear hfz22_0); (try clear hfz22_1); (try clear hfz25_0); (try clear hfz25_1); (try clear hfz26_0); (try clear hfz26_1); (try clear hfz29_0); (try clear hfz29_1); (try clear hfz30_0); (try clear hfz30_1); (try clear hfz32_0); (try clear hfz32_1)
  obtain ⟨kq, x50_6, rfl, HA, HJ6, HO_9, HO_11, BK446, BK452, HB⟩ := hcut
  cases kq with
  | zero => exact absurd HA.out (by simp [linkhouselaw7_FlowLoopsAreEnteredAtHeads.j0])
  | succ kj6 =>
   have H := HA.out
   clear HA
   simp only [linkhouselaw7_FlowLoopsAreEnteredAtHeads.j0] at H
   by_cases c33 : x50_6 = true
   ·
    subst c33
    have H1 : ((linkhouselaw7_crossed.f kj6).bind fun t455 => (some t455)) = some r := by rw [if_pos rfl] at H; exact H
    clear H
    have H := H1
    clear H1
    replace H := Option.bind_eq_some_iff.mp H
    obtain ⟨t455, A340, H⟩ := H
    replace H : (some t455) = some r := H
    have A34 := Aside0.mk A340
    clear A340
    obtain rfl := Option.some.inj H
    go_wp2_with (first | (go_at_call 21; (with_reducible refine (linkhouselaw7_crossed.calls kj6  t455 _ A34.out).mono ?_); rintro e w35 ⟨rfl, hb⟩; have n0_ := Aside0.mk (Kd.S_below (by (with_reducible repeat (first | apply Kd.S_alloc | apply Kd.S_drewN | apply Kd.S_drew)); exact HO_9.out) hb); have n1_ := Aside0.mk (Kd.R_below (by (with_reducible repeat (first | apply Kd.R_alloc | apply Kd.R_drewN | apply Kd.R_drew)); exact HO_11.out) hb); have n2_ := Aside0.mk (blk_below (g := gb446) (o := .cells #[.int .i64 t444, .int .i64 t445] 28 (0, 0)) (bk_ BK446) hb); have n3_ := Aside0.mk (blk_below (g := gb452) (o := .cells #[.int .i64 t450, .int .i64 t451] 28 (0, 0)) (bk_ BK452) hb); have n4_ := Aside0.mk (below_step (bw_ HB) hb); clear HO_9; clear HO_11; clear BK446; clear BK452; clear HB; have HO_9 := n0_; have HO_11 := n1_; have BK446 := n2_; have BK452 := n3_; have HB := n4_; clear n0_ n1_ n2_ n3_ n4_; (try clear hb); (try clear hb2); (try clear hk); (try clear hi)))
    repeat (go_quiet (first | (go_at_call 21; (with_reducible refine (linkhouselaw7_crossed.calls kj6  t455 _ A34.out).mono ?_); rintro e w35 ⟨rfl, hb⟩; have n0_ := Aside0.mk (Kd.S_below (by (with_reducible repeat (first | apply Kd.S_alloc | apply Kd.S_drewN | apply Kd.S_drew)); exact HO_9.out) hb); have n1_ := Aside0.mk (Kd.R_below (by (with_reducible repeat (first | apply Kd.R_alloc | apply Kd.R_drewN | apply Kd.R_drew)); exact HO_11.out) hb); have n2_ := Aside0.mk (blk_below (g := gb446) (o := .cells #[.int .i64 t444, .int .i64 t445] 28 (0, 0)) (bk_ BK446) hb); have n3_ := Aside0.mk (blk_below (g := gb452) (o := .cells #[.int .i64 t450, .int .i64 t451] 28 (0, 0)) (bk_ BK452) hb); have n4_ := Aside0.mk (below_step (bw_ HB) hb); clear HO_9; clear HO_11; clear BK446; clear BK452; clear HB; have HO_9 := n0_; have HO_11 := n1_; have BK446 := n2_; have BK452 := n3_; have HB := n4_; clear n0_ n1_ n2_ n3_ n4_; (try clear hb); (try clear hb2); (try clear hk); (try clear hi))); try go_wp2_with (first | (go_at_call 21; (with_reducible refine (linkhouselaw7_crossed.calls kj6  t455 _ A34.out).mono ?_); rintro e w35 ⟨rfl, hb⟩; have n0_ := Aside0.mk (Kd.S_below (by (with_reducible repeat (first | apply Kd.S_alloc | apply Kd.S_drewN | apply Kd.S_drew)); exact HO_9.out) hb); have n1_ := Aside0.mk (Kd.R_below (by (with_reducible repeat (first | apply Kd.R_alloc | apply Kd.R_drewN | apply Kd.R_drew)); exact HO_11.out) hb); have n2_ := Aside0.mk (blk_below (g := gb446) (o := .cells #[.int .i64 t444, .int .i64 t445] 28 (0, 0)) (bk_ BK446) hb); have n3_ := Aside0.mk (blk_below (g := gb452) (o := .cells #[.int .i64 t450, .int .i64 t451] 28 (0, 0)) (bk_ BK452) hb); have n4_ := Aside0.mk (below_step (bw_ HB) hb); clear HO_9; clear HO_11; clear BK446; clear BK452; clear HB; have HO_9 := n0_; have HO_11 := n1_; have BK446 := n2_; have BK452 := n3_; have HB := n4_; clear n0_ n1_ n2_ n3_ n4_; (try clear hb); (try clear hb2); (try clear hk); (try clear hi))))
    go_ret
    exact ⟨id_, bw_ HB⟩
   ·
    replace c33 := Bool.eq_false_iff.mpr c33
    subst c33
    have H1 : (if (t447.length : Int) = (l0.length : Int) then (if 0 ≤ a3 then (if a3 < (t447.length : Int) then (if rdOf false t447 a3 = true then (if 0 ≤ a2 then (if a2 < (t441.length : Int) then ((linkhouseref7_Has.f kj6 ((rd_T68 t441 a2).f1) a3).bind fun t458 => (linkhouselaw7_FlowLoopsAreEnteredAtHeads.j1 kj6 l0 a2 a3 t441 t458)) else (none)) else (none)) else (linkhouselaw7_FlowLoopsAreEnteredAtHeads.j1 kj6 l0 a2 a3 t441 true)) else (none)) else (none)) else (some false)) = some r := by rw [if_neg (show ¬ (false = true) by decide)] at H; exact H
    clear H
    have H := H1
    clear H1
    by_cases c36 : (t447.length : Int) = (l0.length : Int)
    ·
     rw [if_pos c36] at H
     have c36b0 : ((t447.length : Int) == (l0.length : Int)) = true := beq_iff_eq.mpr c36
     have c36b1 : ((t447.length : Int) != (l0.length : Int)) = false := bne_eq_false_iff_eq.mpr c36
     have c36b2 : (t447.length == l0.length) = true := by first | simpa using c36 | (simp at c36 ⊢; omega)
     clear c36
     have HC37 := Aside0.mk H
     clear H
     obtain ⟨Ao38, co38, eo38⟩ := Kd.R_slice HO_11.out
     subst eo38
     go_upto_region 7 with (fail)
     repeat (go_quiet (fail); go_upto_region 7 with (fail))
     go_cut [70] (fun v70 wc => ∃ (kq : Nat) (x70_36 : Bool), v70 = .bool x70_36 ∧ Aside0 (linkhouselaw7_FlowLoopsAreEnteredAtHeads.j1 kq l0 a2 a3 t441 x70_36 = some r) ∧ Aside0 (kq ≤ kj6) ∧ Aside0 (Kd.S k68 68 wc w.heap.size (fun _ => True) v442 t441) ∧ Aside0 (wc.heap[gb446]? = some (.cells #[.int .i64 t444, .int .i64 t445] 28 (0, 0))) ∧ Aside0 (wc.heap[gb452]? = some (.cells #[.int .i64 t450, .int .i64 t451] 28 (0, 0))) ∧ Aside0 (Below w.heap.size w wc))
     case first =>
      have H := HC37.out
      clear HC37
      by_cases c39 : 0 ≤ a3
      ·
       rw [if_pos c39] at H
       have c39b0 : decide (0 ≤ a3) = true := decide_eq_true c39
       clear c39
       (first | rw [c39b0] | (simp only [i64_w, i32_w]; rw [c39b0]) | skip)
       by_cases c40 : a3 < (t447.length : Int)
       ·
        rw [if_pos c40] at H
        have c40b0 : decide (a3 < (t447.length : Int)) = true := decide_eq_true c40
        clear c40
        obtain ⟨bq41, hbq41⟩ : ∃ b_ : Bool, b_ = (rdOf false t447 a3) := ⟨_, rfl⟩
        replace H : (if bq41 = true then (if 0 ≤ a2 then (if a2 < (t441.length : Int) then ((linkhouseref7_Has.f kj6 ((rd_T68 t441 a2).f1) a3).bind fun t458 => (linkhouselaw7_FlowLoopsAreEnteredAtHeads.j1 kj6 l0 a2 a3 t441 t458)) else (none)) else (none)) else (linkhouselaw7_FlowLoopsAreEnteredAtHeads.j1 kj6 l0 a2 a3 t441 true)) = some r := by rw [← hbq41] at H; exact H
        have Nbq41 := Aside0.mk hbq41
        clear hbq41
        by_cases c42 : bq41 = true
        ·
         subst c42
         have H1 : (if 0 ≤ a2 then (if a2 < (t441.length : Int) then ((linkhouseref7_Has.f kj6 ((rd_T68 t441 a2).f1) a3).bind fun t458 => (linkhouselaw7_FlowLoopsAreEnteredAtHeads.j1 kj6 l0 a2 a3 t441 t458)) else (none)) else (none)) = some r := by rw [if_pos rfl] at H; exact H
         clear H
         have H := H1
         clear H1
         by_cases c43 : 0 ≤ a2
         ·
          rw [if_pos c43] at H
          have c43b0 : decide (0 ≤ a2) = true := decide_eq_true c43
          clear c43
          by_cases c44 : a2 < (t441.length : Int)
          ·
           rw [if_pos c44] at H
           have c44b0 : decide (a2 < (t441.length : Int)) = true := decide_eq_true c44
           clear c44
           replace H := Option.bind_eq_some_iff.mp H
           obtain ⟨t458, A450, H⟩ := H
           replace H : (linkhouselaw7_FlowLoopsAreEnteredAtHeads.j1 kj6 l0 a2 a3 t441 t458) = some r := H
           have A45 := Aside0.mk A450
           clear A450
           have H' := Aside0.mk H
           clear H
           have p456 : 0 ≤ (a3 : Int) := of_decide_eq_true (by first | (with_reducible assumption) | assumption)
           have q456 : a3 < (t447.length : Int) := of_decide_eq_true (by first | (with_reducible assumption) | assumption)
           obtain ⟨ad456, e456, hx456_0⟩ := Kd.at_bool (Kd.R_reads' HO_11.out).2.2 a3 p456 q456
           (try rw [← Nbq41.out] at hx456_0)
           cases e456
           replace p456 := eq_true p456
           replace q456 := eq_true q456
           obtain ⟨Ao46, co46, eo46⟩ := Kd.S_slice HO_9.out
           subst eo46
           have p457 : 0 ≤ (a2 : Int) := of_decide_eq_true (by first | (with_reducible assumption) | assumption)
           have q457 : a2 < (t441.length : Int) := of_decide_eq_true (by first | (with_reducible assumption) | assumption)
           obtain ⟨ad457, A457_1, c457_1, e457, hx457_0, hx457_1, hl457_1, hi457_1⟩ := at_T68 (Kd.S_reads' HO_9.out).2.2 a2 p457 q457
           cases e457
           obtain ⟨ce457, hce457, hMe457, hcc457⟩ := Kd.S_get HO_9.out z68 a2 p457 (by first | exact q457 | exact of_decide_eq_true (by first | (with_reducible assumption) | assumption) | (have e_ := (Kd.S_reads' HO_9.out).1; omega))
           obtain ⟨ve457_1, rfl, ge457_1⟩ := k68_openM hMe457
           have hv457_1 := hcc457 1 _ rfl
           rw [add_field _ _ 1 (by omega)] at hv457_1
           replace hv457_1 := Option.some.inj (hv457_1.symm.trans hx457_1)
           rw [hv457_1] at ge457_1
           have HL457_1 := Aside0.mk (show Kd.R (Kd.int .i64) 3 _ _ _ _ ((rd_T68 t441 a2).f1) from ge457_1)
           clear hv457_1 ge457_1
           clear hcc457 hce457
           have HR457_1 := Aside0.mk hi457_1
           have HC457_1 := Aside0.mk hl457_1
           clear hi457_1 hl457_1
           replace p457 := eq_true p457
           replace q457 := eq_true q457
           go_wp2_with (first | (go_at_call 32; (with_reducible refine (linkhouseref7_Has.calls kj6 _ _ ((rd_T68 t441 a2).f1) a3 t458 _ ?side1 ?side2 A45.out).mono ?_); (case side1 => repeat (first | exact (by repeat (first | (with_reducible exact HR457_1.out) | (with_reducible refine Kd.C_alloc ?_ _) | (with_reducible refine Kd.C_drewN ?_ _) | (with_reducible refine Kd.C_drew ?_) | exact HR457_1.out)) | (with_reducible refine Kd.C_alloc ?_ _) | (with_reducible refine Kd.C_drewN ?_ _) | (with_reducible refine Kd.C_drew ?_))); (case side2 => exact HC457_1.out); rintro e w' ⟨rfl, ⟨nd, rfl⟩⟩; (try first | exact ⟨rfl, _, World.drewN_drewN _ _ _⟩ | exact ⟨rfl, _, Eq.trans (World.drewN_drewN _ _ _) (congrArg (World.drewN _) (Nat.add_assoc _ _ _))⟩)))
           repeat (go_quiet (first | (go_at_call 32; (with_reducible refine (linkhouseref7_Has.calls kj6 _ _ ((rd_T68 t441 a2).f1) a3 t458 _ ?side1 ?side2 A45.out).mono ?_); (case side1 => repeat (first | exact (by repeat (first | (with_reducible exact HR457_1.out) | (with_reducible refine Kd.C_alloc ?_ _) | (with_reducible refine Kd.C_drewN ?_ _) | (with_reducible refine Kd.C_drew ?_) | exact HR457_1.out)) | (with_reducible refine Kd.C_alloc ?_ _) | (with_reducible refine Kd.C_drewN ?_ _) | (with_reducible refine Kd.C_drew ?_))); (case side2 => exact HC457_1.out); rintro e w' ⟨rfl, ⟨nd, rfl⟩⟩; (try first | exact ⟨rfl, _, World.drewN_drewN _ _ _⟩ | exact ⟨rfl, _, Eq.trans (World.drewN_drewN _ _ _) (congrArg (World.drewN _) (Nat.add_assoc _ _ _))⟩))); try go_wp2_with (first | (go_at_call 32; (with_reducible refine (linkhouseref7_Has.calls kj6 _ _ ((rd_T68 t441 a2).f1) a3 t458 _ ?side1 ?side2 A45.out).mono ?_); (case side1 => repeat (first | exact (by repeat (first | (with_reducible exact HR457_1.out) | (with_reducible refine Kd.C_alloc ?_ _) | (with_reducible refine Kd.C_drewN ?_ _) | (with_reducible refine Kd.C_drew ?_) | exact HR457_1.out)) | (with_reducible refine Kd.C_alloc ?_ _) | (with_reducible refine Kd.C_drewN ?_ _) | (with_reducible refine Kd.C_drew ?_))); (case side2 => exact HC457_1.out); rintro e w' ⟨rfl, ⟨nd, rfl⟩⟩; (try first | exact ⟨rfl, _, World.drewN_drewN _ _ _⟩ | exact ⟨rfl, _, Eq.trans (World.drewN_drewN _ _ _) (congrArg (World.drewN _) (Nat.add_assoc _ _ _))⟩))))
           go_meet
           case rel => exact ⟨_, (t458), rs_, H', ⟨by have := HJ6.out; first | omega | exact Nat.le_refl _⟩, ⟨by (with_reducible repeat (first | apply Kd.S_alloc | apply Kd.S_drewN | apply Kd.S_drew)); exact HO_9.out⟩, ⟨bk_ BK446⟩, ⟨bk_ BK452⟩, ⟨bw_ HB⟩⟩
          ·
           rw [if_neg c44] at H
           exact absurd H (by simp)
         ·
          rw [if_neg c43] at H
          exact absurd H (by simp)
        ·
         replace c42 := Bool.eq_false_iff.mpr c42
         subst c42
         have H1 : (linkhouselaw7_FlowLoopsAreEnteredAtHeads.j1 kj6 l0 a2 a3 t441 true) = some r := by rw [if_neg (show ¬ (false = true) by decide)] at H; exact H
         clear H
         have H := H1
         clear H1
         have H' := Aside0.mk H
         clear H
         have p456 : 0 ≤ (a3 : Int) := of_decide_eq_true (by first | (with_reducible assumption) | assumption)
         have q456 : a3 < (t447.length : Int) := of_decide_eq_true (by first | (with_reducible assumption) | assumption)
         obtain ⟨ad456, e456, hx456_0⟩ := Kd.at_bool (Kd.R_reads' HO_11.out).2.2 a3 p456 q456
         (try rw [← Nbq41.out] at hx456_0)
         cases e456
         replace p456 := eq_true p456
         replace q456 := eq_true q456
         go_wp2
         repeat (go_quiet (fail); try go_wp2)
         go_meet
         case rel => exact ⟨_, (true), rs_, H', ⟨by have := HJ6.out; first | omega | exact Nat.le_refl _⟩, ⟨by (with_reducible repeat (first | apply Kd.S_alloc | apply Kd.S_drewN | apply Kd.S_drew)); exact HO_9.out⟩, ⟨bk_ BK446⟩, ⟨bk_ BK452⟩, ⟨bw_ HB⟩⟩
       ·
        rw [if_neg c40] at H
        exact absurd H (by simp)
      ·
       rw [if_neg c39] at H
       exact absurd H (by simp)
     case rest =>
      clear HC37
      (try clear c1); (try clear c2); (try clear p2); (try clear c3); (try clear c4); (try clear p4); (try clear q4); (try clear hx4); (try clear p6); (try clear c9); (try clear c13); (try clear c15); (try clear c15b0); (try clear c15b1); (try clear c16); (try clear c16b0); (try clear c16b1); (try clear c18); (try clear c20); (try clear c24); (try clear c28); (try clear c31); (try clear c33); (try clear c36); (try clear c36b0); (try clear c36b1); (try clear c36b2); (try clear c39); (try clear c39b0); (try clear c40); (try clear c40b0); (try clear q41); (try clear c42); (try clear c43); (try clear c43b0); (try clear c44); (try clear c44b0); (try clear c45); (try clear p45); (try clear q45); (try clear hx45); (try clear hcz10_0); (try clear hcz10_1); (try clear hcz14_0); (try clear hcz14_1); (try clear hcz21_0); (try clear hcz21_1); (try clear hcz22_0); (try clear hcz22_1); (try clear hcz25_0); (try clear hcz25_1); (try clear hcz26_0); (try clear hcz26_1); (try clear hcz29_0); (try clear hcz29_1); (try clear hcz30_0); (try clear hcz30_1); (try clear hcz32_0); (try clear hcz32_1); (try clear hfz10_0); (try clear hfz10_1); (try clear hfz14_0); (try clear hfz14_1); (try clear hfz21_0); (try clear hfz21_1); (try clear hfz22_0); (try clear hfz22_1); (try clear hfz25_0); (try clear hfz25_1); (try clear hfz26_0); (try clear hfz26_1); (try clear hfz29_0); (try clear hfz29_1); (try clear hfz30_0); (try clear hfz30_1); (try clear hfz32_0); (try clear hfz32_1); (try clear hx456_0); (try clear hx457_0); (try clear hx457_1); (try clear p2); (try clear p456); (try clear p457); (try clear p6); (try clear q456); (try clear q457)
      obtain ⟨kq, x70_36, rfl, HA, HJ36, HO_9, BK446, BK452, HB⟩ := hcut
      cases kq with
      | zero => exact absurd HA.out (by simp [linkhouselaw7_FlowLoopsAreEnteredAtHeads.j1])
      | succ kj36 =>
       have H := HA.out
       clear HA
       simp only [linkhouselaw7_FlowLoopsAreEnteredAtHeads.j1] at H
       by_cases c47 : x70_36 = true
       ·
        subst c47
        have H1 : ((linkhouselaw7_crossed.f kj36).bind fun t459 => (some t459)) = some r := by rw [if_pos rfl] at H; exact H
        clear H
        have H := H1
        clear H1
        replace H := Option.bind_eq_some_iff.mp H
        obtain ⟨t459, A480, H⟩ := H
        replace H : (some t459) = some r := H
        have A48 := Aside0.mk A480
        clear A480
        obtain rfl := Option.some.inj H
        go_wp2_with (first | (go_at_call 21; (with_reducible refine (linkhouselaw7_crossed.calls kj36  t459 _ A48.out).mono ?_); rintro e w49 ⟨rfl, hb⟩; have n0_ := Aside0.mk (Kd.S_below (by (with_reducible repeat (first | apply Kd.S_alloc | apply Kd.S_drewN | apply Kd.S_drew)); exact HO_9.out) hb); have n1_ := Aside0.mk (blk_below (g := gb446) (o := .cells #[.int .i64 t444, .int .i64 t445] 28 (0, 0)) (bk_ BK446) hb); have n2_ := Aside0.mk (blk_below (g := gb452) (o := .cells #[.int .i64 t450, .int .i64 t451] 28 (0, 0)) (bk_ BK452) hb); have n3_ := Aside0.mk (below_step (bw_ HB) hb); clear HO_9; clear BK446; clear BK452; clear HB; have HO_9 := n0_; have BK446 := n1_; have BK452 := n2_; have HB := n3_; clear n0_ n1_ n2_ n3_; (try clear hb); (try clear hb2); (try clear hk); (try clear hi)))
        repeat (go_quiet (first | (go_at_call 21; (with_reducible refine (linkhouselaw7_crossed.calls kj36  t459 _ A48.out).mono ?_); rintro e w49 ⟨rfl, hb⟩; have n0_ := Aside0.mk (Kd.S_below (by (with_reducible repeat (first | apply Kd.S_alloc | apply Kd.S_drewN | apply Kd.S_drew)); exact HO_9.out) hb); have n1_ := Aside0.mk (blk_below (g := gb446) (o := .cells #[.int .i64 t444, .int .i64 t445] 28 (0, 0)) (bk_ BK446) hb); have n2_ := Aside0.mk (blk_below (g := gb452) (o := .cells #[.int .i64 t450, .int .i64 t451] 28 (0, 0)) (bk_ BK452) hb); have n3_ := Aside0.mk (below_step (bw_ HB) hb); clear HO_9; clear BK446; clear BK452; clear HB; have HO_9 := n0_; have BK446 := n1_; have BK452 := n2_; have HB := n3_; clear n0_ n1_ n2_ n3_; (try clear hb); (try clear hb2); (try clear hk); (try clear hi))); try go_wp2_with (first | (go_at_call 21; (with_reducible refine (linkhouselaw7_crossed.calls kj36  t459 _ A48.out).mono ?_); rintro e w49 ⟨rfl, hb⟩; have n0_ := Aside0.mk (Kd.S_below (by (with_reducible repeat (first | apply Kd.S_alloc | apply Kd.S_drewN | apply Kd.S_drew)); exact HO_9.out) hb); have n1_ := Aside0.mk (blk_below (g := gb446) (o := .cells #[.int .i64 t444, .int .i64 t445] 28 (0, 0)) (bk_ BK446) hb); have n2_ := Aside0.mk (blk_below (g := gb452) (o := .cells #[.int .i64 t450, .int .i64 t451] 28 (0, 0)) (bk_ BK452) hb); have n3_ := Aside0.mk (below_step (bw_ HB) hb); clear HO_9; clear BK446; clear BK452; clear HB; have HO_9 := n0_; have BK446 := n1_; have BK452 := n2_; have HB := n3_; clear n0_ n1_ n2_ n3_; (try clear hb); (try clear hb2); (try clear hk); (try clear hi))))
        go_ret
        exact ⟨id_, bw_ HB⟩
       ·
        replace c47 := Bool.eq_false_iff.mpr c47
        subst c47
        have H1 : (linkhouselaw7_FlowLoopsAreEnteredAtHeads.l0 kj36 l0 a2 a3 t441 0) = some r := by rw [if_neg (show ¬ (false = true) by decide)] at H; exact H
        clear H
        have H := H1
        clear H1
        have H' := Aside0.mk H
        clear H
        go_wp2
        repeat (go_quiet (fail); try go_wp2)
        go_loopg [13] kj36 (fun kq v13 w' => ∃ (x13_3 : Int), v13 = .int .i64 x13_3 ∧ Aside0 (linkhouselaw7_FlowLoopsAreEnteredAtHeads.l0 kq l0 a2 a3 t441 x13_3 = some r) ∧ Aside0 (kq ≤ kj36) ∧ Aside0 (Kd.S k68 68 w' w.heap.size (fun _ => True) v442 t441) ∧ Aside0 (w'.heap[gb446]? = some (.cells #[.int .i64 t444, .int .i64 t445] 28 (0, 0))) ∧ Aside0 (w'.heap[gb452]? = some (.cells #[.int .i64 t450, .int .i64 t451] 28 (0, 0))) ∧ Aside0 (Below w.heap.size w w'))
        case atStart => exact ⟨(0), rs_, H', ⟨Nat.le_refl _⟩, ⟨by (with_reducible repeat (first | apply Kd.S_alloc | apply Kd.S_drewN | apply Kd.S_drew)); exact HO_9.out⟩, ⟨bk_ BK446⟩, ⟨bk_ BK452⟩, ⟨bw_ HB⟩⟩
        case round =>
         clear H'
         (try clear c1); (try clear c2); (try clear p2); (try clear c3); (try clear c4); (try clear p4); (try clear q4); (try clear hx4); (try clear p6); (try clear c9); (try clear c13); (try clear c15); (try clear c15b0); (try clear c15b1); (try clear c16); (try clear c16b0); (try clear c16b1); (try clear c18); (try clear c20); (try clear c24); (try clear c28); (try clear c31); (try clear c33); (try clear c36); (try clear c36b0); (try clear c36b1); (try clear c36b2); (try clear c39); (try clear c39b0); (try clear c40); (try clear c40b0); (try clear q41); (try clear c42); (try clear c43); (try clear c43b0); (try clear c44); (try clear c44b0); (try clear c45); (try clear p45); (try clear q45); (try clear hx45); (try clear c47); (try clear hcz10_0); (try clear hcz10_1); (try clear hcz14_0); (try clear hcz14_1); (try clear hcz21_0); (try clear hcz21_1); (try clear hcz22_0); (try clear hcz22_1); (try clear hcz25_0); (try clear hcz25_1); (try clear hcz26_0); (try clear hcz26_1); (try clear hcz29_0); (try clear hcz29_1); (try clear hcz30_0); (try clear hcz30_1); (try clear hcz32_0); (try clear hcz32_1); (try clear hfz10_0); (try clear hfz10_1); (try clear hfz14_0); (try clear hfz14_1); (try clear hfz21_0); (try clear hfz21_1); (try clear hfz22_0); (try clear hfz22_1); (try clear hfz25_0); (try clear hfz25_1); (try clear hfz26_0); (try clear hfz26_1); (try clear hfz29_0); (try clear hfz29_1); (try clear hfz30_0); (try clear hfz30_1); (try clear hfz32_0); (try clear hfz32_1); (try clear hx456_0); (try clear hx457_0); (try clear hx457_1); (try clear p2); (try clear p4); (try clear p45); (try clear p456); (try clear p457); (try clear p6); (try clear q4); (try clear q41); (try clear q45); (try clear q456); (try clear q457)
         obtain ⟨x13_3, rfl, HA, HK3, HO_9, BK446, BK452, HB⟩ := hrel
         cases gk with
         | zero => exact absurd HA.out (by simp [linkhouselaw7_FlowLoopsAreEnteredAtHeads.l0])
         | succ k3 =>
          have H := HA.out
          clear HA
          simp only [linkhouselaw7_FlowLoopsAreEnteredAtHeads.l0] at H
          by_cases c50 : 0 ≤ a3
          ·
           rw [if_pos c50] at H
           have c50b0 : decide (0 ≤ a3) = true := decide_eq_true c50
           clear c50
           by_cases c51 : a3 < (l0.length : Int)
           ·
            rw [if_pos c51] at H
            have c51b0 : decide (a3 < (l0.length : Int)) = true := decide_eq_true c51
            clear c51
            by_cases c52 : x13_3 < (((rd_T62 l0 a3).f3).length : Int)
            ·
             rw [if_pos c52] at H
             have c52b0 : decide (x13_3 < (((rd_T62 l0 a3).f3).length : Int)) = true := decide_eq_true c52
             clear c52
             by_cases c53 : 0 ≤ x13_3
             ·
              rw [if_pos c53] at H
              have c53b0 : decide (0 ≤ x13_3) = true := decide_eq_true c53
              clear c53
              by_cases c54 : ((rd_T64 ((rd_T62 l0 a3).f3) x13_3).f0) = 3
              ·
               rw [if_pos c54] at H
               have c54b0 : (((rd_T64 ((rd_T62 l0 a3).f3) x13_3).f0) == 3) = true := beq_iff_eq.mpr c54
               have c54b1 : (((rd_T64 ((rd_T62 l0 a3).f3) x13_3).f0) != 3) = false := bne_eq_false_iff_eq.mpr c54
               clear c54
               have H' := Aside0.mk H
               clear H
               have p460 : 0 ≤ (a3 : Int) := of_decide_eq_true (by first | (with_reducible assumption) | assumption)
               have q460 : a3 < (l0.length : Int) := of_decide_eq_true (by first | (with_reducible assumption) | assumption)
               obtain ⟨ad460, A460_3, c460_3, e460, hx460_0, hx460_1, hx460_2, hx460_3, hl460_3, hi460_3⟩ := at_T62 HR0.out a3 p460 q460
               cases e460
               replace hx460_0 := (HB.out.cell (World.block_lt_of_cell? w _ hx460_0)).trans hx460_0
               replace hx460_1 := (HB.out.cell (World.block_lt_of_cell? w _ hx460_1)).trans hx460_1
               replace hx460_2 := (HB.out.cell (World.block_lt_of_cell? w _ hx460_2)).trans hx460_2
               replace hx460_3 := (HB.out.cell (World.block_lt_of_cell? w _ hx460_3)).trans hx460_3
               have HR460_3 := Aside0.mk hi460_3
               have HC460_3 := Aside0.mk hl460_3
               clear hi460_3 hl460_3
               replace p460 := eq_true p460
               replace q460 := eq_true q460
               have p461 : 0 ≤ (a3 : Int) := of_decide_eq_true (by first | (with_reducible assumption) | assumption)
               have q461 : a3 < (l0.length : Int) := of_decide_eq_true (by first | (with_reducible assumption) | assumption)
               obtain ⟨ad461, A461_3, c461_3, e461, hx461_0, hx461_1, hx461_2, hx461_3, hl461_3, hi461_3⟩ := at_T62 HR0.out a3 p461 q461
               obtain rfl : ad460 = ad461 := (by injection e461)
               replace hx461_0 := (HB.out.cell (World.block_lt_of_cell? w _ hx461_0)).trans hx461_0
               replace hx461_1 := (HB.out.cell (World.block_lt_of_cell? w _ hx461_1)).trans hx461_1
               replace hx461_2 := (HB.out.cell (World.block_lt_of_cell? w _ hx461_2)).trans hx461_2
               replace hx461_3 := (HB.out.cell (World.block_lt_of_cell? w _ hx461_3)).trans hx461_3
               have HR461_3 := Aside0.mk hi461_3
               have HC461_3 := Aside0.mk hl461_3
               clear hi461_3 hl461_3
               replace p461 := eq_true p461
               replace q461 := eq_true q461
               have ea_ := Option.some.inj (hx460_3.symm.trans hx461_3)
               injection ea_ with ea_ en_ ec_
               subst ea_
               subst ec_
               clear en_
               have p462 : 0 ≤ (x13_3 : Int) := of_decide_eq_true (by first | (with_reducible assumption) | assumption)
               have q462 : x13_3 < (((rd_T62 l0 a3).f3).length : Int) := of_decide_eq_true (by first | (with_reducible assumption) | assumption)
               obtain ⟨ad462, e462, hx462_0, hx462_1⟩ := at_T64 HR461_3.out x13_3 p462 q462
               cases e462
               replace hx462_0 := (HB.out.cell (World.block_lt_of_cell? w _ hx462_0)).trans hx462_0
               replace hx462_1 := (HB.out.cell (World.block_lt_of_cell? w _ hx462_1)).trans hx462_1
               replace p462 := eq_true p462
               replace q462 := eq_true q462
               go_wp2_with (first | ((with_reducible refine gate_dst (N := 14) rfl ?_); (try (refine gate_guard (by rfl) ?_; dsimp only)); refine bx_ (N := 14) (cs := #[.int .i64 0, .int .i64 0]) (t := 64) ?_; intro gb463 hg w55 hbox hb; have n0_ := Aside0.mk (Kd.S_below (by (with_reducible repeat (first | apply Kd.S_alloc | apply Kd.S_drewN | apply Kd.S_drew)); exact HO_9.out) hb); have n1_ := Aside0.mk (blk_below (g := gb446) (o := .cells #[.int .i64 t444, .int .i64 t445] 28 (0, 0)) (bk_ BK446) hb); have n2_ := Aside0.mk (blk_below (g := gb452) (o := .cells #[.int .i64 t450, .int .i64 t451] 28 (0, 0)) (bk_ BK452) hb); have n3_ := Aside0.mk (below_step (bw_ HB) hb); have n4_ := Aside0.mk (hbox); have n5_ := Aside0.mk ((by rw [hg]; exact (below_size (bw_ HB)) : w.heap.size ≤ gb463)); have n6_ := Aside0.mk ((by rw [hg]; exact (below_size (bw_ HB)) : w.heap.size ≤ gb463)); have n7_ := Aside0.mk ((by rw [hg]; exact Nat.ne_of_lt (blk_lt (g := gb446) (o := .cells #[.int .i64 t444, .int .i64 t445] 28 (0, 0)) (bk_ BK446)) : gb446 ≠ gb463)); have n8_ := Aside0.mk ((by rw [hg]; exact Nat.ne_of_gt (blk_lt (g := gb446) (o := .cells #[.int .i64 t444, .int .i64 t445] 28 (0, 0)) (bk_ BK446)) : gb463 ≠ gb446)); have n9_ := Aside0.mk ((by rw [hg]; exact Nat.ne_of_lt (blk_lt (g := gb452) (o := .cells #[.int .i64 t450, .int .i64 t451] 28 (0, 0)) (bk_ BK452)) : gb452 ≠ gb463)); have n10_ := Aside0.mk ((by rw [hg]; exact Nat.ne_of_gt (blk_lt (g := gb452) (o := .cells #[.int .i64 t450, .int .i64 t451] 28 (0, 0)) (bk_ BK452)) : gb463 ≠ gb452)); clear HO_9; clear BK446; clear BK452; clear HB; have HO_9 := n0_; have BK446 := n1_; have BK452 := n2_; have HB := n3_; have BK463 := n4_; have GW463 := n5_; have GE463 := n6_; have NB446_463 := n7_; have NB463_446 := n8_; have NB452_463 := n9_; have NB463_452 := n10_; clear n0_ n1_ n2_ n3_ n4_ n5_ n6_ n7_ n8_ n9_ n10_; clear hb hbox hg; have hnb56 := NB463_446.out; have hnc56 := NB446_463.out; have hnb57 := NB463_452.out; have hnc57 := NB452_463.out; obtain ⟨hcz58_0, hcz58_1, hfz58_0, hfz58_1⟩ := cz2_ BK463))
               repeat (go_quiet (first | ((with_reducible refine gate_dst (N := 14) rfl ?_); (try (refine gate_guard (by rfl) ?_; dsimp only)); refine bx_ (N := 14) (cs := #[.int .i64 0, .int .i64 0]) (t := 64) ?_; intro gb463 hg w55 hbox hb; have n0_ := Aside0.mk (Kd.S_below (by (with_reducible repeat (first | apply Kd.S_alloc | apply Kd.S_drewN | apply Kd.S_drew)); exact HO_9.out) hb); have n1_ := Aside0.mk (blk_below (g := gb446) (o := .cells #[.int .i64 t444, .int .i64 t445] 28 (0, 0)) (bk_ BK446) hb); have n2_ := Aside0.mk (blk_below (g := gb452) (o := .cells #[.int .i64 t450, .int .i64 t451] 28 (0, 0)) (bk_ BK452) hb); have n3_ := Aside0.mk (below_step (bw_ HB) hb); have n4_ := Aside0.mk (hbox); have n5_ := Aside0.mk ((by rw [hg]; exact (below_size (bw_ HB)) : w.heap.size ≤ gb463)); have n6_ := Aside0.mk ((by rw [hg]; exact (below_size (bw_ HB)) : w.heap.size ≤ gb463)); have n7_ := Aside0.mk ((by rw [hg]; exact Nat.ne_of_lt (blk_lt (g := gb446) (o := .cells #[.int .i64 t444, .int .i64 t445] 28 (0, 0)) (bk_ BK446)) : gb446 ≠ gb463)); have n8_ := Aside0.mk ((by rw [hg]; exact Nat.ne_of_gt (blk_lt (g := gb446) (o := .cells #[.int .i64 t444, .int .i64 t445] 28 (0, 0)) (bk_ BK446)) : gb463 ≠ gb446)); have n9_ := Aside0.mk ((by rw [hg]; exact Nat.ne_of_lt (blk_lt (g := gb452) (o := .cells #[.int .i64 t450, .int .i64 t451] 28 (0, 0)) (bk_ BK452)) : gb452 ≠ gb463)); have n10_ := Aside0.mk ((by rw [hg]; exact Nat.ne_of_gt (blk_lt (g := gb452) (o := .cells #[.int .i64 t450, .int .i64 t451] 28 (0, 0)) (bk_ BK452)) : gb463 ≠ gb452)); clear HO_9; clear BK446; clear BK452; clear HB; have HO_9 := n0_; have BK446 := n1_; have BK452 := n2_; have HB := n3_; have BK463 := n4_; have GW463 := n5_; have GE463 := n6_; have NB446_463 := n7_; have NB463_446 := n8_; have NB452_463 := n9_; have NB463_452 := n10_; clear n0_ n1_ n2_ n3_ n4_ n5_ n6_ n7_ n8_ n9_ n10_; clear hb hbox hg; have hnb56 := NB463_446.out; have hnc56 := NB446_463.out; have hnb57 := NB463_452.out; have hnc57 := NB452_463.out; obtain ⟨hcz58_0, hcz58_1, hfz58_0, hfz58_1⟩ := cz2_ BK463)); try go_wp2_with (first | ((with_reducible refine gate_dst (N := 14) rfl ?_); (try (refine gate_guard (by rfl) ?_; dsimp only)); refine bx_ (N := 14) (cs := #[.int .i64 0, .int .i64 0]) (t := 64) ?_; intro gb463 hg w55 hbox hb; have n0_ := Aside0.mk (Kd.S_below (by (with_reducible repeat (first | apply Kd.S_alloc | apply Kd.S_drewN | apply Kd.S_drew)); exact HO_9.out) hb); have n1_ := Aside0.mk (blk_below (g := gb446) (o := .cells #[.int .i64 t444, .int .i64 t445] 28 (0, 0)) (bk_ BK446) hb); have n2_ := Aside0.mk (blk_below (g := gb452) (o := .cells #[.int .i64 t450, .int .i64 t451] 28 (0, 0)) (bk_ BK452) hb); have n3_ := Aside0.mk (below_step (bw_ HB) hb); have n4_ := Aside0.mk (hbox); have n5_ := Aside0.mk ((by rw [hg]; exact (below_size (bw_ HB)) : w.heap.size ≤ gb463)); have n6_ := Aside0.mk ((by rw [hg]; exact (below_size (bw_ HB)) : w.heap.size ≤ gb463)); have n7_ := Aside0.mk ((by rw [hg]; exact Nat.ne_of_lt (blk_lt (g := gb446) (o := .cells #[.int .i64 t444, .int .i64 t445] 28 (0, 0)) (bk_ BK446)) : gb446 ≠ gb463)); have n8_ := Aside0.mk ((by rw [hg]; exact Nat.ne_of_gt (blk_lt (g := gb446) (o := .cells #[.int .i64 t444, .int .i64 t445] 28 (0, 0)) (bk_ BK446)) : gb463 ≠ gb446)); have n9_ := Aside0.mk ((by rw [hg]; exact Nat.ne_of_lt (blk_lt (g := gb452) (o := .cells #[.int .i64 t450, .int .i64 t451] 28 (0, 0)) (bk_ BK452)) : gb452 ≠ gb463)); have n10_ := Aside0.mk ((by rw [hg]; exact Nat.ne_of_gt (blk_lt (g := gb452) (o := .cells #[.int .i64 t450, .int .i64 t451] 28 (0, 0)) (bk_ BK452)) : gb463 ≠ gb452)); clear HO_9; clear BK446; clear BK452; clear HB; have HO_9 := n0_; have BK446 := n1_; have BK452 := n2_; have HB := n3_; have BK463 := n4_; have GW463 := n5_; have GE463 := n6_; have NB446_463 := n7_; have NB463_446 := n8_; have NB452_463 := n9_; have NB463_452 := n10_; clear n0_ n1_ n2_ n3_ n4_ n5_ n6_ n7_ n8_ n9_ n10_; clear hb hbox hg; have hnb56 := NB463_446.out; have hnc56 := NB446_463.out; have hnb57 := NB463_452.out; have hnc57 := NB452_463.out; obtain ⟨hcz58_0, hcz58_1, hfz58_0, hfz58_1⟩ := cz2_ BK463)))
               go_roundg k3
               case measure => have := HJ6.out; have := HJ36.out; have := HK3.out; omega
               case rel => exact ⟨(wrap64 (x13_3 + 1)), rs_, H', ⟨by have := HJ6.out; have := HJ36.out; have := HK3.out; omega⟩, ⟨by (with_reducible repeat (first | apply Kd.S_alloc | apply Kd.S_drewN | apply Kd.S_drew)); exact Kd.S_mono (Kd.S_far (p := ⟨gb463, 1, none⟩) (Kd.S_far (p := ⟨gb463, 0, none⟩) (Kd.S_types HO_9.out BK463.out (by decide)) (fun _ hk => hk.2) (.int .i64 ((rd_T64 ((rd_T62 l0 a3).f3) x13_3).f0))) (fun _ hk => hk.2) (.int .i64 ((rd_T64 ((rd_T62 l0 a3).f3) x13_3).f1))) (fun _ hk => trivial)⟩, ⟨bk_ BK446⟩, ⟨bk_ BK452⟩, ⟨bw_ HB⟩⟩
              ·
               rw [if_neg c54] at H
               have c54b0 : (((rd_T64 ((rd_T62 l0 a3).f3) x13_3).f0) == 3) = false := beq_eq_false_iff_ne.mpr c54
               have c54b1 : (((rd_T64 ((rd_T62 l0 a3).f3) x13_3).f0) != 3) = true := bne_iff_ne.mpr c54
               by_cases c59 : 0 ≤ a2
               ·
                rw [if_pos c59] at H
                have c59b0 : decide (0 ≤ a2) = true := decide_eq_true c59
                clear c59
                by_cases c60 : a2 < (t441.length : Int)
                ·
                 rw [if_pos c60] at H
                 have c60b0 : decide (a2 < (t441.length : Int)) = true := decide_eq_true c60
                 clear c60
                 replace H := Option.bind_eq_some_iff.mp H
                 obtain ⟨t465, A610, H⟩ := H
                 replace H : (if t465 = true then (if ((rd_T64 ((rd_T62 l0 a3).f3) x13_3).f1) = ((rd_T68 t441 a2).f0) then (linkhouselaw7_FlowLoopsAreEnteredAtHeads.l0 k3 l0 a2 a3 t441 (wrap64 (x13_3 + 1))) else (some false)) else (linkhouselaw7_FlowLoopsAreEnteredAtHeads.l0 k3 l0 a2 a3 t441 (wrap64 (x13_3 + 1)))) = some r := H
                 have A61 := Aside0.mk A610
                 clear A610
                 by_cases c62 : t465 = true
                 ·
                  subst c62
                  have H1 : (if ((rd_T64 ((rd_T62 l0 a3).f3) x13_3).f1) = ((rd_T68 t441 a2).f0) then (linkhouselaw7_FlowLoopsAreEnteredAtHeads.l0 k3 l0 a2 a3 t441 (wrap64 (x13_3 + 1))) else (some false)) = some r := by rw [if_pos rfl] at H; exact H
                  clear H
                  have H := H1
                  clear H1
                  by_cases c63 : ((rd_T64 ((rd_T62 l0 a3).f3) x13_3).f1) = ((rd_T68 t441 a2).f0)
                  ·
                   rw [if_pos c63] at H
                   have c63b0 : (((rd_T64 ((rd_T62 l0 a3).f3) x13_3).f1) == ((rd_T68 t441 a2).f0)) = true := beq_iff_eq.mpr c63
                   have c63b1 : (((rd_T64 ((rd_T62 l0 a3).f3) x13_3).f1) != ((rd_T68 t441 a2).f0)) = false := bne_eq_false_iff_eq.mpr c63
                   clear c63
                   have H' := Aside0.mk H
                   clear H
                   have p460 : 0 ≤ (a3 : Int) := of_decide_eq_true (by first | (with_reducible assumption) | assumption)
                   have q460 : a3 < (l0.length : Int) := of_decide_eq_true (by first | (with_reducible assumption) | assumption)
                   obtain ⟨ad460, A460_3, c460_3, e460, hx460_0, hx460_1, hx460_2, hx460_3, hl460_3, hi460_3⟩ := at_T62 HR0.out a3 p460 q460
                   cases e460
                   replace hx460_0 := (HB.out.cell (World.block_lt_of_cell? w _ hx460_0)).trans hx460_0
                   replace hx460_1 := (HB.out.cell (World.block_lt_of_cell? w _ hx460_1)).trans hx460_1
                   replace hx460_2 := (HB.out.cell (World.block_lt_of_cell? w _ hx460_2)).trans hx460_2
                   replace hx460_3 := (HB.out.cell (World.block_lt_of_cell? w _ hx460_3)).trans hx460_3
                   have HR460_3 := Aside0.mk hi460_3
                   have HC460_3 := Aside0.mk hl460_3
                   clear hi460_3 hl460_3
                   replace p460 := eq_true p460
                   replace q460 := eq_true q460
                   have p461 : 0 ≤ (a3 : Int) := of_decide_eq_true (by first | (with_reducible assumption) | assumption)
                   have q461 : a3 < (l0.length : Int) := of_decide_eq_true (by first | (with_reducible assumption) | assumption)
                   obtain ⟨ad461, A461_3, c461_3, e461, hx461_0, hx461_1, hx461_2, hx461_3, hl461_3, hi461_3⟩ := at_T62 HR0.out a3 p461 q461
                   obtain rfl : ad460 = ad461 := (by injection e461)
                   replace hx461_0 := (HB.out.cell (World.block_lt_of_cell? w _ hx461_0)).trans hx461_0
                   replace hx461_1 := (HB.out.cell (World.block_lt_of_cell? w _ hx461_1)).trans hx461_1
                   replace hx461_2 := (HB.out.cell (World.block_lt_of_cell? w _ hx461_2)).trans hx461_2
                   replace hx461_3 := (HB.out.cell (World.block_lt_of_cell? w _ hx461_3)).trans hx461_3
                   have HR461_3 := Aside0.mk hi461_3
                   have HC461_3 := Aside0.mk hl461_3
                   clear hi461_3 hl461_3
                   replace p461 := eq_true p461
                   replace q461 := eq_true q461
                   have ea_ := Option.some.inj (hx460_3.symm.trans hx461_3)
                   injection ea_ with ea_ en_ ec_
                   subst ea_
                   subst ec_
                   clear en_
                   have p462 : 0 ≤ (x13_3 : Int) := of_decide_eq_true (by first | (with_reducible assumption) | assumption)
                   have q462 : x13_3 < (((rd_T62 l0 a3).f3).length : Int) := of_decide_eq_true (by first | (with_reducible assumption) | assumption)
                   obtain ⟨ad462, e462, hx462_0, hx462_1⟩ := at_T64 HR461_3.out x13_3 p462 q462
                   cases e462
                   replace hx462_0 := (HB.out.cell (World.block_lt_of_cell? w _ hx462_0)).trans hx462_0
                   replace hx462_1 := (HB.out.cell (World.block_lt_of_cell? w _ hx462_1)).trans hx462_1
                   replace p462 := eq_true p462
                   replace q462 := eq_true q462
                   go_wp2_with (first | ((with_reducible refine gate_dst (N := 14) rfl ?_); (try (refine gate_guard (by rfl) ?_; dsimp only)); refine bx_ (N := 14) (cs := #[.int .i64 0, .int .i64 0]) (t := 64) ?_; intro gb463 hg w64 hbox hb; have n0_ := Aside0.mk (Kd.S_below (by (with_reducible repeat (first | apply Kd.S_alloc | apply Kd.S_drewN | apply Kd.S_drew)); exact HO_9.out) hb); have n1_ := Aside0.mk (blk_below (g := gb446) (o := .cells #[.int .i64 t444, .int .i64 t445] 28 (0, 0)) (bk_ BK446) hb); have n2_ := Aside0.mk (blk_below (g := gb452) (o := .cells #[.int .i64 t450, .int .i64 t451] 28 (0, 0)) (bk_ BK452) hb); have n3_ := Aside0.mk (below_step (bw_ HB) hb); have n4_ := Aside0.mk (hbox); have n5_ := Aside0.mk ((by rw [hg]; exact (below_size (bw_ HB)) : w.heap.size ≤ gb463)); have n6_ := Aside0.mk ((by rw [hg]; exact (below_size (bw_ HB)) : w.heap.size ≤ gb463)); have n7_ := Aside0.mk ((by rw [hg]; exact Nat.ne_of_lt (blk_lt (g := gb446) (o := .cells #[.int .i64 t444, .int .i64 t445] 28 (0, 0)) (bk_ BK446)) : gb446 ≠ gb463)); have n8_ := Aside0.mk ((by rw [hg]; exact Nat.ne_of_gt (blk_lt (g := gb446) (o := .cells #[.int .i64 t444, .int .i64 t445] 28 (0, 0)) (bk_ BK446)) : gb463 ≠ gb446)); have n9_ := Aside0.mk ((by rw [hg]; exact Nat.ne_of_lt (blk_lt (g := gb452) (o := .cells #[.int .i64 t450, .int .i64 t451] 28 (0, 0)) (bk_ BK452)) : gb452 ≠ gb463)); have n10_ := Aside0.mk ((by rw [hg]; exact Nat.ne_of_gt (blk_lt (g := gb452) (o := .cells #[.int .i64 t450, .int .i64 t451] 28 (0, 0)) (bk_ BK452)) : gb463 ≠ gb452)); clear HO_9; clear BK446; clear BK452; clear HB; have HO_9 := n0_; have BK446 := n1_; have BK452 := n2_; have HB := n3_; have BK463 := n4_; have GW463 := n5_; have GE463 := n6_; have NB446_463 := n7_; have NB463_446 := n8_; have NB452_463 := n9_; have NB463_452 := n10_; clear n0_ n1_ n2_ n3_ n4_ n5_ n6_ n7_ n8_ n9_ n10_; clear hb hbox hg; have hnb65 := NB463_446.out; have hnc65 := NB446_463.out; have hnb66 := NB463_452.out; have hnc66 := NB452_463.out; obtain ⟨hcz67_0, hcz67_1, hfz67_0, hfz67_1⟩ := cz2_ BK463) | ((with_reducible refine gate_store (t := 64) (p := 14) rfl ?_); (try (rw [drewN_self w64]; generalize hq_ : World.drewN w64 _ = w64; have n0_ := Aside0.mk (Kd.S_at hq_ HO_9.out); have n1_ := Aside0.mk (blk_at hq_ BK446.out); have n2_ := Aside0.mk (blk_at hq_ BK452.out); have n3_ := Aside0.mk (blk_at hq_ BK463.out); have n4_ := Aside0.mk (below_at hq_ HB.out); clear hq_ HO_9 BK446 BK452 BK463 HB; have HO_9 := n0_; have BK446 := n1_; have BK452 := n2_; have BK463 := n3_; have HB := n4_; clear n0_ n1_ n2_ n3_ n4_)); refine store_event (t := 64) (p := 14) (v := ?vo_w68) (w1 := ((w64.setCell ⟨gb463, 0, none⟩ (.int .i64 ((rd_T64 ((rd_T62 l0 a3).f3) x13_3).f0))).setCell ⟨gb463, 1, none⟩ (.int .i64 ((rd_T64 ((rd_T62 l0 a3).f3) x13_3).f1)))) ?hg ?ho ?hn ?hr ?_; (case ho => rfl); (case hg => rfl); (case hn => rfl); (case hr => first | (go_simp; done) | (go_simp; rfl)); intro w68 hw; have n0_ : Aside0 (Kd.S k68 68 w68 w.heap.size (fun _ => True) v442 t441) := ⟨(by rw [hw]; exact (by (with_reducible repeat (first | apply Kd.S_alloc | apply Kd.S_drewN | apply Kd.S_drew)); exact Kd.S_mono (Kd.S_far (p := ⟨gb463, 1, none⟩) (Kd.S_far (p := ⟨gb463, 0, none⟩) (Kd.S_types HO_9.out BK463.out (by decide)) (fun _ hk => hk.2) (.int .i64 ((rd_T64 ((rd_T62 l0 a3).f3) x13_3).f0))) (fun _ hk => hk.2) (.int .i64 ((rd_T64 ((rd_T62 l0 a3).f3) x13_3).f1))) (fun _ hk => trivial)))⟩; have n1_ : Aside0 (w68.heap[gb446]? = some (.cells #[.int .i64 t444, .int .i64 t445] 28 (0, 0))) := ⟨(by rw [hw]; exact (bk_ BK446))⟩; have n2_ : Aside0 (w68.heap[gb452]? = some (.cells #[.int .i64 t450, .int .i64 t451] 28 (0, 0))) := ⟨(by rw [hw]; exact (bk_ BK452))⟩; have n3_ : Aside0 (w68.heap[gb463]? = some (.cells #[.int .i64 ((rd_T64 ((rd_T62 l0 a3).f3) x13_3).f0), .int .i64 ((rd_T64 ((rd_T62 l0 a3).f3) x13_3).f1)] 64 (0, 0))) := ⟨(by rw [hw]; exact (bk_ BK463))⟩; have n4_ : Aside0 (Below w.heap.size w w68) := ⟨(by rw [hw]; exact (bw_ HB))⟩; clear hw; clear HO_9; clear BK446; clear BK452; clear BK463; clear HB; have HO_9 := n0_; have BK446 := n1_; have BK452 := n2_; have BK463 := n3_; have HB := n4_; clear n0_ n1_ n2_ n3_ n4_; obtain ⟨hcz69_0, hcz69_1, hfz69_0, hfz69_1⟩ := cz2_ BK463; obtain ⟨Ao70, co70, eo70⟩ := Kd.S_slice HO_9.out; subst eo70; have p464 : 0 ≤ (a2 : Int) := of_decide_eq_true (by first | (with_reducible assumption) | assumption); have q464 : a2 < (t441.length : Int) := of_decide_eq_true (by first | (with_reducible assumption) | assumption); obtain ⟨ad464, A464_1, c464_1, e464, hx464_0, hx464_1, hl464_1, hi464_1⟩ := at_T68 (Kd.S_reads' HO_9.out).2.2 a2 p464 q464; cases e464; obtain ⟨ce464, hce464, hMe464, hcc464⟩ := Kd.S_get HO_9.out z68 a2 p464 (by first | exact q464 | exact of_decide_eq_true (by first | (with_reducible assumption) | assumption) | (have e_ := (Kd.S_reads' HO_9.out).1; omega)); obtain ⟨ve464_1, rfl, ge464_1⟩ := k68_openM hMe464; have hv464_1 := hcc464 1 _ rfl; rw [add_field _ _ 1 (by omega)] at hv464_1; replace hv464_1 := Option.some.inj (hv464_1.symm.trans hx464_1); rw [hv464_1] at ge464_1; have HL464_1 := Aside0.mk (show Kd.R (Kd.int .i64) 3 _ _ _ _ ((rd_T68 t441 a2).f1) from ge464_1); clear hv464_1 ge464_1; clear hcc464 hce464; have HR464_1 := Aside0.mk hi464_1; have HC464_1 := Aside0.mk hl464_1; clear hi464_1 hl464_1; replace p464 := eq_true p464; replace q464 := eq_true q464) | (go_at_call 32; (with_reducible refine (linkhouseref7_Has.calls k3 _ _ ((rd_T68 t441 a2).f1) ((rd_T64 ((rd_T62 l0 a3).f3) x13_3).f1) true _ ?side1 ?side2 A61.out).mono ?_); (case side1 => repeat (first | exact (by repeat (first | (with_reducible exact HR464_1.out) | (with_reducible refine Kd.C_alloc ?_ _) | (with_reducible refine Kd.C_drewN ?_ _) | (with_reducible refine Kd.C_drew ?_) | exact HR464_1.out)) | (with_reducible refine Kd.C_alloc ?_ _) | (with_reducible refine Kd.C_drewN ?_ _) | (with_reducible refine Kd.C_drew ?_))); (case side2 => exact HC464_1.out); rintro e w' ⟨rfl, ⟨nd, rfl⟩⟩; (try first | exact ⟨rfl, _, World.drewN_drewN _ _ _⟩ | exact ⟨rfl, _, Eq.trans (World.drewN_drewN _ _ _) (congrArg (World.drewN _) (Nat.add_assoc _ _ _))⟩); have p466 : 0 ≤ (a2 : Int) := of_decide_eq_true (by first | (with_reducible assumption) | assumption); have q466 : a2 < (t441.length : Int) := of_decide_eq_true (by first | (with_reducible assumption) | assumption); obtain ⟨ad466, A466_1, c466_1, e466, hx466_0, hx466_1, hl466_1, hi466_1⟩ := at_T68 (Kd.S_reads' HO_9.out).2.2 a2 p466 q466; obtain rfl : ad464 = ad466 := (by injection e466); obtain ⟨ce466, hce466, hMe466, hcc466⟩ := Kd.S_get HO_9.out z68 a2 p466 (by first | exact q466 | exact of_decide_eq_true (by first | (with_reducible assumption) | assumption) | (have e_ := (Kd.S_reads' HO_9.out).1; omega)); obtain ⟨ve466_1, rfl, ge466_1⟩ := k68_openM hMe466; have hv466_1 := hcc466 1 _ rfl; rw [add_field _ _ 1 (by omega)] at hv466_1; replace hv466_1 := Option.some.inj (hv466_1.symm.trans hx466_1); rw [hv466_1] at ge466_1; have HL466_1 := Aside0.mk (show Kd.R (Kd.int .i64) 3 _ _ _ _ ((rd_T68 t441 a2).f1) from ge466_1); clear hv466_1 ge466_1; clear hcc466 hce466; have HR466_1 := Aside0.mk hi466_1; have HC466_1 := Aside0.mk hl466_1; clear hi466_1 hl466_1; replace p466 := eq_true p466; replace q466 := eq_true q466; have ea_ := Option.some.inj (hx464_1.symm.trans hx466_1); injection ea_ with ea_ en_ ec_; subst ea_; subst ec_; clear en_))
                   repeat (go_quiet (first | ((with_reducible refine gate_dst (N := 14) rfl ?_); (try (refine gate_guard (by rfl) ?_; dsimp only)); refine bx_ (N := 14) (cs := #[.int .i64 0, .int .i64 0]) (t := 64) ?_; intro gb463 hg w64 hbox hb; have n0_ := Aside0.mk (Kd.S_below (by (with_reducible repeat (first | apply Kd.S_alloc | apply Kd.S_drewN | apply Kd.S_drew)); exact HO_9.out) hb); have n1_ := Aside0.mk (blk_below (g := gb446) (o := .cells #[.int .i64 t444, .int .i64 t445] 28 (0, 0)) (bk_ BK446) hb); have n2_ := Aside0.mk (blk_below (g := gb452) (o := .cells #[.int .i64 t450, .int .i64 t451] 28 (0, 0)) (bk_ BK452) hb); have n3_ := Aside0.mk (below_step (bw_ HB) hb); have n4_ := Aside0.mk (hbox); have n5_ := Aside0.mk ((by rw [hg]; exact (below_size (bw_ HB)) : w.heap.size ≤ gb463)); have n6_ := Aside0.mk ((by rw [hg]; exact (below_size (bw_ HB)) : w.heap.size ≤ gb463)); have n7_ := Aside0.mk ((by rw [hg]; exact Nat.ne_of_lt (blk_lt (g := gb446) (o := .cells #[.int .i64 t444, .int .i64 t445] 28 (0, 0)) (bk_ BK446)) : gb446 ≠ gb463)); have n8_ := Aside0.mk ((by rw [hg]; exact Nat.ne_of_gt (blk_lt (g := gb446) (o := .cells #[.int .i64 t444, .int .i64 t445] 28 (0, 0)) (bk_ BK446)) : gb463 ≠ gb446)); have n9_ := Aside0.mk ((by rw [hg]; exact Nat.ne_of_lt (blk_lt (g := gb452) (o := .cells #[.int .i64 t450, .int .i64 t451] 28 (0, 0)) (bk_ BK452)) : gb452 ≠ gb463)); have n10_ := Aside0.mk ((by rw [hg]; exact Nat.ne_of_gt (blk_lt (g := gb452) (o := .cells #[.int .i64 t450, .int .i64 t451] 28 (0, 0)) (bk_ BK452)) : gb463 ≠ gb452)); clear HO_9; clear BK446; clear BK452; clear HB; have HO_9 := n0_; have BK446 := n1_; have BK452 := n2_; have HB := n3_; have BK463 := n4_; have GW463 := n5_; have GE463 := n6_; have NB446_463 := n7_; have NB463_446 := n8_; have NB452_463 := n9_; have NB463_452 := n10_; clear n0_ n1_ n2_ n3_ n4_ n5_ n6_ n7_ n8_ n9_ n10_; clear hb hbox hg; have hnb65 := NB463_446.out; have hnc65 := NB446_463.out; have hnb66 := NB463_452.out; have hnc66 := NB452_463.out; obtain ⟨hcz67_0, hcz67_1, hfz67_0, hfz67_1⟩ := cz2_ BK463) | ((with_reducible refine gate_store (t := 64) (p := 14) rfl ?_); (try (rw [drewN_self w64]; generalize hq_ : World.drewN w64 _ = w64; have n0_ := Aside0.mk (Kd.S_at hq_ HO_9.out); have n1_ := Aside0.mk (blk_at hq_ BK446.out); have n2_ := Aside0.mk (blk_at hq_ BK452.out); have n3_ := Aside0.mk (blk_at hq_ BK463.out); have n4_ := Aside0.mk (below_at hq_ HB.out); clear hq_ HO_9 BK446 BK452 BK463 HB; have HO_9 := n0_; have BK446 := n1_; have BK452 := n2_; have BK463 := n3_; have HB := n4_; clear n0_ n1_ n2_ n3_ n4_)); refine store_event (t := 64) (p := 14) (v := ?vo_w68) (w1 := ((w64.setCell ⟨gb463, 0, none⟩ (.int .i64 ((rd_T64 ((rd_T62 l0 a3).f3) x13_3).f0))).setCell ⟨gb463, 1, none⟩ (.int .i64 ((rd_T64 ((rd_T62 l0 a3).f3) x13_3).f1)))) ?hg ?ho ?hn ?hr ?_; (case ho => rfl); (case hg => rfl); (case hn => rfl); (case hr => first | (go_simp; done) | (go_simp; rfl)); intro w68 hw; have n0_ : Aside0 (Kd.S k68 68 w68 w.heap.size (fun _ => True) v442 t441) := ⟨(by rw [hw]; exact (by (with_reducible repeat (first | apply Kd.S_alloc | apply Kd.S_drewN | apply Kd.S_drew)); exact Kd.S_mono (Kd.S_far (p := ⟨gb463, 1, none⟩) (Kd.S_far (p := ⟨gb463, 0, none⟩) (Kd.S_types HO_9.out BK463.out (by decide)) (fun _ hk => hk.2) (.int .i64 ((rd_T64 ((rd_T62 l0 a3).f3) x13_3).f0))) (fun _ hk => hk.2) (.int .i64 ((rd_T64 ((rd_T62 l0 a3).f3) x13_3).f1))) (fun _ hk => trivial)))⟩; have n1_ : Aside0 (w68.heap[gb446]? = some (.cells #[.int .i64 t444, .int .i64 t445] 28 (0, 0))) := ⟨(by rw [hw]; exact (bk_ BK446))⟩; have n2_ : Aside0 (w68.heap[gb452]? = some (.cells #[.int .i64 t450, .int .i64 t451] 28 (0, 0))) := ⟨(by rw [hw]; exact (bk_ BK452))⟩; have n3_ : Aside0 (w68.heap[gb463]? = some (.cells #[.int .i64 ((rd_T64 ((rd_T62 l0 a3).f3) x13_3).f0), .int .i64 ((rd_T64 ((rd_T62 l0 a3).f3) x13_3).f1)] 64 (0, 0))) := ⟨(by rw [hw]; exact (bk_ BK463))⟩; have n4_ : Aside0 (Below w.heap.size w w68) := ⟨(by rw [hw]; exact (bw_ HB))⟩; clear hw; clear HO_9; clear BK446; clear BK452; clear BK463; clear HB; have HO_9 := n0_; have BK446 := n1_; have BK452 := n2_; have BK463 := n3_; have HB := n4_; clear n0_ n1_ n2_ n3_ n4_; obtain ⟨hcz69_0, hcz69_1, hfz69_0, hfz69_1⟩ := cz2_ BK463; obtain ⟨Ao70, co70, eo70⟩ := Kd.S_slice HO_9.out; subst eo70; have p464 : 0 ≤ (a2 : Int) := of_decide_eq_true (by first | (with_reducible assumption) | assumption); have q464 : a2 < (t441.length : Int) := of_decide_eq_true (by first | (with_reducible assumption) | assumption); obtain ⟨ad464, A464_1, c464_1, e464, hx464_0, hx464_1, hl464_1, hi464_1⟩ := at_T68 (Kd.S_reads' HO_9.out).2.2 a2 p464 q464; cases e464; obtain ⟨ce464, hce464, hMe464, hcc464⟩ := Kd.S_get HO_9.out z68 a2 p464 (by first | exact q464 | exact of_decide_eq_true (by first | (with_reducible assumption) | assumption) | (have e_ := (Kd.S_reads' HO_9.out).1; omega)); obtain ⟨ve464_1, rfl, ge464_1⟩ := k68_openM hMe464; have hv464_1 := hcc464 1 _ rfl; rw [add_field _ _ 1 (by omega)] at hv464_1; replace hv464_1 := Option.some.inj (hv464_1.symm.trans hx464_1); rw [hv464_1] at ge464_1; have HL464_1 := Aside0.mk (show Kd.R (Kd.int .i64) 3 _ _ _ _ ((rd_T68 t441 a2).f1) from ge464_1); clear hv464_1 ge464_1; clear hcc464 hce464; have HR464_1 := Aside0.mk hi464_1; have HC464_1 := Aside0.mk hl464_1; clear hi464_1 hl464_1; replace p464 := eq_true p464; replace q464 := eq_true q464) | (go_at_call 32; (with_reducible refine (linkhouseref7_Has.calls k3 _ _ ((rd_T68 t441 a2).f1) ((rd_T64 ((rd_T62 l0 a3).f3) x13_3).f1) true _ ?side1 ?side2 A61.out).mono ?_); (case side1 => repeat (first | exact (by repeat (first | (with_reducible exact HR464_1.out) | (with_reducible refine Kd.C_alloc ?_ _) | (with_reducible refine Kd.C_drewN ?_ _) | (with_reducible refine Kd.C_drew ?_) | exact HR464_1.out)) | (with_reducible refine Kd.C_alloc ?_ _) | (with_reducible refine Kd.C_drewN ?_ _) | (with_reducible refine Kd.C_drew ?_))); (case side2 => exact HC464_1.out); rintro e w' ⟨rfl, ⟨nd, rfl⟩⟩; (try first | exact ⟨rfl, _, World.drewN_drewN _ _ _⟩ | exact ⟨rfl, _, Eq.trans (World.drewN_drewN _ _ _) (congrArg (World.drewN _) (Nat.add_assoc _ _ _))⟩); have p466 : 0 ≤ (a2 : Int) := of_decide_eq_true (by first | (with_reducible assumption) | assumption); have q466 : a2 < (t441.length : Int) := of_decide_eq_true (by first | (with_reducible assumption) | assumption); obtain ⟨ad466, A466_1, c466_1, e466, hx466_0, hx466_1, hl466_1, hi466_1⟩ := at_T68 (Kd.S_reads' HO_9.out).2.2 a2 p466 q466; obtain rfl : ad464 = ad466 := (by injection e466); obtain ⟨ce466, hce466, hMe466, hcc466⟩ := Kd.S_get HO_9.out z68 a2 p466 (by first | exact q466 | exact of_decide_eq_true (by first | (with_reducible assumption) | assumption) | (have e_ := (Kd.S_reads' HO_9.out).1; omega)); obtain ⟨ve466_1, rfl, ge466_1⟩ := k68_openM hMe466; have hv466_1 := hcc466 1 _ rfl; rw [add_field _ _ 1 (by omega)] at hv466_1; replace hv466_1 := Option.some.inj (hv466_1.symm.trans hx466_1); rw [hv466_1] at ge466_1; have HL466_1 := Aside0.mk (show Kd.R (Kd.int .i64) 3 _ _ _ _ ((rd_T68 t441 a2).f1) from ge466_1); clear hv466_1 ge466_1; clear hcc466 hce466; have HR466_1 := Aside0.mk hi466_1; have HC466_1 := Aside0.mk hl466_1; clear hi466_1 hl466_1; replace p466 := eq_true p466; replace q466 := eq_true q466; have ea_ := Option.some.inj (hx464_1.symm.trans hx466_1); injection ea_ with ea_ en_ ec_; subst ea_; subst ec_; clear en_)); try go_wp2_with (first | ((with_reducible refine gate_dst (N := 14) rfl ?_); (try (refine gate_guard (by rfl) ?_; dsimp only)); refine bx_ (N := 14) (cs := #[.int .i64 0, .int .i64 0]) (t := 64) ?_; intro gb463 hg w64 hbox hb; have n0_ := Aside0.mk (Kd.S_below (by (with_reducible repeat (first | apply Kd.S_alloc | apply Kd.S_drewN | apply Kd.S_drew)); exact HO_9.out) hb); have n1_ := Aside0.mk (blk_below (g := gb446) (o := .cells #[.int .i64 t444, .int .i64 t445] 28 (0, 0)) (bk_ BK446) hb); have n2_ := Aside0.mk (blk_below (g := gb452) (o := .cells #[.int .i64 t450, .int .i64 t451] 28 (0, 0)) (bk_ BK452) hb); have n3_ := Aside0.mk (below_step (bw_ HB) hb); have n4_ := Aside0.mk (hbox); have n5_ := Aside0.mk ((by rw [hg]; exact (below_size (bw_ HB)) : w.heap.size ≤ gb463)); have n6_ := Aside0.mk ((by rw [hg]; exact (below_size (bw_ HB)) : w.heap.size ≤ gb463)); have n7_ := Aside0.mk ((by rw [hg]; exact Nat.ne_of_lt (blk_lt (g := gb446) (o := .cells #[.int .i64 t444, .int .i64 t445] 28 (0, 0)) (bk_ BK446)) : gb446 ≠ gb463)); have n8_ := Aside0.mk ((by rw [hg]; exact Nat.ne_of_gt (blk_lt (g := gb446) (o := .cells #[.int .i64 t444, .int .i64 t445] 28 (0, 0)) (bk_ BK446)) : gb463 ≠ gb446)); have n9_ := Aside0.mk ((by rw [hg]; exact Nat.ne_of_lt (blk_lt (g := gb452) (o := .cells #[.int .i64 t450, .int .i64 t451] 28 (0, 0)) (bk_ BK452)) : gb452 ≠ gb463)); have n10_ := Aside0.mk ((by rw [hg]; exact Nat.ne_of_gt (blk_lt (g := gb452) (o := .cells #[.int .i64 t450, .int .i64 t451] 28 (0, 0)) (bk_ BK452)) : gb463 ≠ gb452)); clear HO_9; clear BK446; clear BK452; clear HB; have HO_9 := n0_; have BK446 := n1_; have BK452 := n2_; have HB := n3_; have BK463 := n4_; have GW463 := n5_; have GE463 := n6_; have NB446_463 := n7_; have NB463_446 := n8_; have NB452_463 := n9_; have NB463_452 := n10_; clear n0_ n1_ n2_ n3_ n4_ n5_ n6_ n7_ n8_ n9_ n10_; clear hb hbox hg; have hnb65 := NB463_446.out; have hnc65 := NB446_463.out; have hnb66 := NB463_452.out; have hnc66 := NB452_463.out; obtain ⟨hcz67_0, hcz67_1, hfz67_0, hfz67_1⟩ := cz2_ BK463) | ((with_reducible refine gate_store (t := 64) (p := 14) rfl ?_); (try (rw [drewN_self w64]; generalize hq_ : World.drewN w64 _ = w64; have n0_ := Aside0.mk (Kd.S_at hq_ HO_9.out); have n1_ := Aside0.mk (blk_at hq_ BK446.out); have n2_ := Aside0.mk (blk_at hq_ BK452.out); have n3_ := Aside0.mk (blk_at hq_ BK463.out); have n4_ := Aside0.mk (below_at hq_ HB.out); clear hq_ HO_9 BK446 BK452 BK463 HB; have HO_9 := n0_; have BK446 := n1_; have BK452 := n2_; have BK463 := n3_; have HB := n4_; clear n0_ n1_ n2_ n3_ n4_)); refine store_event (t := 64) (p := 14) (v := ?vo_w68) (w1 := ((w64.setCell ⟨gb463, 0, none⟩ (.int .i64 ((rd_T64 ((rd_T62 l0 a3).f3) x13_3).f0))).setCell ⟨gb463, 1, none⟩ (.int .i64 ((rd_T64 ((rd_T62 l0 a3).f3) x13_3).f1)))) ?hg ?ho ?hn ?hr ?_; (case ho => rfl); (case hg => rfl); (case hn => rfl); (case hr => first | (go_simp; done) | (go_simp; rfl)); intro w68 hw; have n0_ : Aside0 (Kd.S k68 68 w68 w.heap.size (fun _ => True) v442 t441) := ⟨(by rw [hw]; exact (by (with_reducible repeat (first | apply Kd.S_alloc | apply Kd.S_drewN | apply Kd.S_drew)); exact Kd.S_mono (Kd.S_far (p := ⟨gb463, 1, none⟩) (Kd.S_far (p := ⟨gb463, 0, none⟩) (Kd.S_types HO_9.out BK463.out (by decide)) (fun _ hk => hk.2) (.int .i64 ((rd_T64 ((rd_T62 l0 a3).f3) x13_3).f0))) (fun _ hk => hk.2) (.int .i64 ((rd_T64 ((rd_T62 l0 a3).f3) x13_3).f1))) (fun _ hk => trivial)))⟩; have n1_ : Aside0 (w68.heap[gb446]? = some (.cells #[.int .i64 t444, .int .i64 t445] 28 (0, 0))) := ⟨(by rw [hw]; exact (bk_ BK446))⟩; have n2_ : Aside0 (w68.heap[gb452]? = some (.cells #[.int .i64 t450, .int .i64 t451] 28 (0, 0))) := ⟨(by rw [hw]; exact (bk_ BK452))⟩; have n3_ : Aside0 (w68.heap[gb463]? = some (.cells #[.int .i64 ((rd_T64 ((rd_T62 l0 a3).f3) x13_3).f0), .int .i64 ((rd_T64 ((rd_T62 l0 a3).f3) x13_3).f1)] 64 (0, 0))) := ⟨(by rw [hw]; exact (bk_ BK463))⟩; have n4_ : Aside0 (Below w.heap.size w w68) := ⟨(by rw [hw]; exact (bw_ HB))⟩; clear hw; clear HO_9; clear BK446; clear BK452; clear BK463; clear HB; have HO_9 := n0_; have BK446 := n1_; have BK452 := n2_; have BK463 := n3_; have HB := n4_; clear n0_ n1_ n2_ n3_ n4_; obtain ⟨hcz69_0, hcz69_1, hfz69_0, hfz69_1⟩ := cz2_ BK463; obtain ⟨Ao70, co70, eo70⟩ := Kd.S_slice HO_9.out; subst eo70; have p464 : 0 ≤ (a2 : Int) := of_decide_eq_true (by first | (with_reducible assumption) | assumption); have q464 : a2 < (t441.length : Int) := of_decide_eq_true (by first | (with_reducible assumption) | assumption); obtain ⟨ad464, A464_1, c464_1, e464, hx464_0, hx464_1, hl464_1, hi464_1⟩ := at_T68 (Kd.S_reads' HO_9.out).2.2 a2 p464 q464; cases e464; obtain ⟨ce464, hce464, hMe464, hcc464⟩ := Kd.S_get HO_9.out z68 a2 p464 (by first | exact q464 | exact of_decide_eq_true (by first | (with_reducible assumption) | assumption) | (have e_ := (Kd.S_reads' HO_9.out).1; omega)); obtain ⟨ve464_1, rfl, ge464_1⟩ := k68_openM hMe464; have hv464_1 := hcc464 1 _ rfl; rw [add_field _ _ 1 (by omega)] at hv464_1; replace hv464_1 := Option.some.inj (hv464_1.symm.trans hx464_1); rw [hv464_1] at ge464_1; have HL464_1 := Aside0.mk (show Kd.R (Kd.int .i64) 3 _ _ _ _ ((rd_T68 t441 a2).f1) from ge464_1); clear hv464_1 ge464_1; clear hcc464 hce464; have HR464_1 := Aside0.mk hi464_1; have HC464_1 := Aside0.mk hl464_1; clear hi464_1 hl464_1; replace p464 := eq_true p464; replace q464 := eq_true q464) | (go_at_call 32; (with_reducible refine (linkhouseref7_Has.calls k3 _ _ ((rd_T68 t441 a2).f1) ((rd_T64 ((rd_T62 l0 a3).f3) x13_3).f1) true _ ?side1 ?side2 A61.out).mono ?_); (case side1 => repeat (first | exact (by repeat (first | (with_reducible exact HR464_1.out) | (with_reducible refine Kd.C_alloc ?_ _) | (with_reducible refine Kd.C_drewN ?_ _) | (with_reducible refine Kd.C_drew ?_) | exact HR464_1.out)) | (with_reducible refine Kd.C_alloc ?_ _) | (with_reducible refine Kd.C_drewN ?_ _) | (with_reducible refine Kd.C_drew ?_))); (case side2 => exact HC464_1.out); rintro e w' ⟨rfl, ⟨nd, rfl⟩⟩; (try first | exact ⟨rfl, _, World.drewN_drewN _ _ _⟩ | exact ⟨rfl, _, Eq.trans (World.drewN_drewN _ _ _) (congrArg (World.drewN _) (Nat.add_assoc _ _ _))⟩); have p466 : 0 ≤ (a2 : Int) := of_decide_eq_true (by first | (with_reducible assumption) | assumption); have q466 : a2 < (t441.length : Int) := of_decide_eq_true (by first | (with_reducible assumption) | assumption); obtain ⟨ad466, A466_1, c466_1, e466, hx466_0, hx466_1, hl466_1, hi466_1⟩ := at_T68 (Kd.S_reads' HO_9.out).2.2 a2 p466 q466; obtain rfl : ad464 = ad466 := (by injection e466); obtain ⟨ce466, hce466, hMe466, hcc466⟩ := Kd.S_get HO_9.out z68 a2 p466 (by first | exact q466 | exact of_decide_eq_true (by first | (with_reducible assumption) | assumption) | (have e_ := (Kd.S_reads' HO_9.out).1; omega)); obtain ⟨ve466_1, rfl, ge466_1⟩ := k68_openM hMe466; have hv466_1 := hcc466 1 _ rfl; rw [add_field _ _ 1 (by omega)] at hv466_1; replace hv466_1 := Option.some.inj (hv466_1.symm.trans hx466_1); rw [hv466_1] at ge466_1; have HL466_1 := Aside0.mk (show Kd.R (Kd.int .i64) 3 _ _ _ _ ((rd_T68 t441 a2).f1) from ge466_1); clear hv466_1 ge466_1; clear hcc466 hce466; have HR466_1 := Aside0.mk hi466_1; have HC466_1 := Aside0.mk hl466_1; clear hi466_1 hl466_1; replace p466 := eq_true p466; replace q466 := eq_true q466; have ea_ := Option.some.inj (hx464_1.symm.trans hx466_1); injection ea_ with ea_ en_ ec_; subst ea_; subst ec_; clear en_)))
                   go_roundg k3
                   case measure => have := HJ6.out; have := HJ36.out; have := HK3.out; omega
                   case rel => exact ⟨(wrap64 (x13_3 + 1)), rs_, H', ⟨by have := HJ6.out; have := HJ36.out; have := HK3.out; omega⟩, ⟨by (with_reducible repeat (first | apply Kd.S_alloc | apply Kd.S_drewN | apply Kd.S_drew)); exact HO_9.out⟩, ⟨bk_ BK446⟩, ⟨bk_ BK452⟩, ⟨bw_ HB⟩⟩
                  ·
                   rw [if_neg c63] at H
                   have c63b0 : (((rd_T64 ((rd_T62 l0 a3).f3) x13_3).f1) == ((rd_T68 t441 a2).f0)) = false := beq_eq_false_iff_ne.mpr c63
                   have c63b1 : (((rd_T64 ((rd_T62 l0 a3).f3) x13_3).f1) != ((rd_T68 t441 a2).f0)) = true := bne_iff_ne.mpr c63
                   obtain rfl := Option.some.inj H
                   have p460 : 0 ≤ (a3 : Int) := of_decide_eq_true (by first | (with_reducible assumption) | assumption)
                   have q460 : a3 < (l0.length : Int) := of_decide_eq_true (by first | (with_reducible assumption) | assumption)
                   obtain ⟨ad460, A460_3, c460_3, e460, hx460_0, hx460_1, hx460_2, hx460_3, hl460_3, hi460_3⟩ := at_T62 HR0.out a3 p460 q460
                   cases e460
                   replace hx460_0 := (HB.out.cell (World.block_lt_of_cell? w _ hx460_0)).trans hx460_0
                   replace hx460_1 := (HB.out.cell (World.block_lt_of_cell? w _ hx460_1)).trans hx460_1
                   replace hx460_2 := (HB.out.cell (World.block_lt_of_cell? w _ hx460_2)).trans hx460_2
                   replace hx460_3 := (HB.out.cell (World.block_lt_of_cell? w _ hx460_3)).trans hx460_3
                   have HR460_3 := Aside0.mk hi460_3
                   have HC460_3 := Aside0.mk hl460_3
                   clear hi460_3 hl460_3
                   replace p460 := eq_true p460
                   replace q460 := eq_true q460
                   have p461 : 0 ≤ (a3 : Int) := of_decide_eq_true (by first | (with_reducible assumption) | assumption)
                   have q461 : a3 < (l0.length : Int) := of_decide_eq_true (by first | (with_reducible assumption) | assumption)
                   obtain ⟨ad461, A461_3, c461_3, e461, hx461_0, hx461_1, hx461_2, hx461_3, hl461_3, hi461_3⟩ := at_T62 HR0.out a3 p461 q461
                   obtain rfl : ad460 = ad461 := (by injection e461)
                   replace hx461_0 := (HB.out.cell (World.block_lt_of_cell? w _ hx461_0)).trans hx461_0
                   replace hx461_1 := (HB.out.cell (World.block_lt_of_cell? w _ hx461_1)).trans hx461_1
                   replace hx461_2 := (HB.out.cell (World.block_lt_of_cell? w _ hx461_2)).trans hx461_2
                   replace hx461_3 := (HB.out.cell (World.block_lt_of_cell? w _ hx461_3)).trans hx461_3
                   have HR461_3 := Aside0.mk hi461_3
                   have HC461_3 := Aside0.mk hl461_3
                   clear hi461_3 hl461_3
                   replace p461 := eq_true p461
                   replace q461 := eq_true q461
                   have ea_ := Option.some.inj (hx460_3.symm.trans hx461_3)
                   injection ea_ with ea_ en_ ec_
                   subst ea_
                   subst ec_
                   clear en_
                   have p462 : 0 ≤ (x13_3 : Int) := of_decide_eq_true (by first | (with_reducible assumption) | assumption)
                   have q462 : x13_3 < (((rd_T62 l0 a3).f3).length : Int) := of_decide_eq_true (by first | (with_reducible assumption) | assumption)
                   obtain ⟨ad462, e462, hx462_0, hx462_1⟩ := at_T64 HR461_3.out x13_3 p462 q462
                   cases e462
                   replace hx462_0 := (HB.out.cell (World.block_lt_of_cell? w _ hx462_0)).trans hx462_0
                   replace hx462_1 := (HB.out.cell (World.block_lt_of_cell? w _ hx462_1)).trans hx462_1
                   replace p462 := eq_true p462
                   replace q462 := eq_true q462
                   go_wp2_with (first | ((with_reducible refine gate_dst (N := 14) rfl ?_); (try (refine gate_guard (by rfl) ?_; dsimp only)); refine bx_ (N := 14) (cs := #[.int .i64 0, .int .i64 0]) (t := 64) ?_; intro gb463 hg w71 hbox hb; have n0_ := Aside0.mk (Kd.S_below (by (with_reducible repeat (first | apply Kd.S_alloc | apply Kd.S_drewN | apply Kd.S_drew)); exact HO_9.out) hb); have n1_ := Aside0.mk (blk_below (g := gb446) (o := .cells #[.int .i64 t444, .int .i64 t445] 28 (0, 0)) (bk_ BK446) hb); have n2_ := Aside0.mk (blk_below (g := gb452) (o := .cells #[.int .i64 t450, .int .i64 t451] 28 (0, 0)) (bk_ BK452) hb); have n3_ := Aside0.mk (below_step (bw_ HB) hb); have n4_ := Aside0.mk (hbox); have n5_ := Aside0.mk ((by rw [hg]; exact (below_size (bw_ HB)) : w.heap.size ≤ gb463)); have n6_ := Aside0.mk ((by rw [hg]; exact (below_size (bw_ HB)) : w.heap.size ≤ gb463)); have n7_ := Aside0.mk ((by rw [hg]; exact Nat.ne_of_lt (blk_lt (g := gb446) (o := .cells #[.int .i64 t444, .int .i64 t445] 28 (0, 0)) (bk_ BK446)) : gb446 ≠ gb463)); have n8_ := Aside0.mk ((by rw [hg]; exact Nat.ne_of_gt (blk_lt (g := gb446) (o := .cells #[.int .i64 t444, .int .i64 t445] 28 (0, 0)) (bk_ BK446)) : gb463 ≠ gb446)); have n9_ := Aside0.mk ((by rw [hg]; exact Nat.ne_of_lt (blk_lt (g := gb452) (o := .cells #[.int .i64 t450, .int .i64 t451] 28 (0, 0)) (bk_ BK452)) : gb452 ≠ gb463)); have n10_ := Aside0.mk ((by rw [hg]; exact Nat.ne_of_gt (blk_lt (g := gb452) (o := .cells #[.int .i64 t450, .int .i64 t451] 28 (0, 0)) (bk_ BK452)) : gb463 ≠ gb452)); clear HO_9; clear BK446; clear BK452; clear HB; have HO_9 := n0_; have BK446 := n1_; have BK452 := n2_; have HB := n3_; have BK463 := n4_; have GW463 := n5_; have GE463 := n6_; have NB446_463 := n7_; have NB463_446 := n8_; have NB452_463 := n9_; have NB463_452 := n10_; clear n0_ n1_ n2_ n3_ n4_ n5_ n6_ n7_ n8_ n9_ n10_; clear hb hbox hg; have hnb72 := NB463_446.out; have hnc72 := NB446_463.out; have hnb73 := NB463_452.out; have hnc73 := NB452_463.out; obtain ⟨hcz74_0, hcz74_1, hfz74_0, hfz74_1⟩ := cz2_ BK463) | ((with_reducible refine gate_store (t := 64) (p := 14) rfl ?_); (try (rw [drewN_self w71]; generalize hq_ : World.drewN w71 _ = w71; have n0_ := Aside0.mk (Kd.S_at hq_ HO_9.out); have n1_ := Aside0.mk (blk_at hq_ BK446.out); have n2_ := Aside0.mk (blk_at hq_ BK452.out); have n3_ := Aside0.mk (blk_at hq_ BK463.out); have n4_ := Aside0.mk (below_at hq_ HB.out); clear hq_ HO_9 BK446 BK452 BK463 HB; have HO_9 := n0_; have BK446 := n1_; have BK452 := n2_; have BK463 := n3_; have HB := n4_; clear n0_ n1_ n2_ n3_ n4_)); refine store_event (t := 64) (p := 14) (v := ?vo_w75) (w1 := ((w71.setCell ⟨gb463, 0, none⟩ (.int .i64 ((rd_T64 ((rd_T62 l0 a3).f3) x13_3).f0))).setCell ⟨gb463, 1, none⟩ (.int .i64 ((rd_T64 ((rd_T62 l0 a3).f3) x13_3).f1)))) ?hg ?ho ?hn ?hr ?_; (case ho => rfl); (case hg => rfl); (case hn => rfl); (case hr => first | (go_simp; done) | (go_simp; rfl)); intro w75 hw; have n0_ : Aside0 (Kd.S k68 68 w75 w.heap.size (fun _ => True) v442 t441) := ⟨(by rw [hw]; exact (by (with_reducible repeat (first | apply Kd.S_alloc | apply Kd.S_drewN | apply Kd.S_drew)); exact Kd.S_mono (Kd.S_far (p := ⟨gb463, 1, none⟩) (Kd.S_far (p := ⟨gb463, 0, none⟩) (Kd.S_types HO_9.out BK463.out (by decide)) (fun _ hk => hk.2) (.int .i64 ((rd_T64 ((rd_T62 l0 a3).f3) x13_3).f0))) (fun _ hk => hk.2) (.int .i64 ((rd_T64 ((rd_T62 l0 a3).f3) x13_3).f1))) (fun _ hk => trivial)))⟩; have n1_ : Aside0 (w75.heap[gb446]? = some (.cells #[.int .i64 t444, .int .i64 t445] 28 (0, 0))) := ⟨(by rw [hw]; exact (bk_ BK446))⟩; have n2_ : Aside0 (w75.heap[gb452]? = some (.cells #[.int .i64 t450, .int .i64 t451] 28 (0, 0))) := ⟨(by rw [hw]; exact (bk_ BK452))⟩; have n3_ : Aside0 (w75.heap[gb463]? = some (.cells #[.int .i64 ((rd_T64 ((rd_T62 l0 a3).f3) x13_3).f0), .int .i64 ((rd_T64 ((rd_T62 l0 a3).f3) x13_3).f1)] 64 (0, 0))) := ⟨(by rw [hw]; exact (bk_ BK463))⟩; have n4_ : Aside0 (Below w.heap.size w w75) := ⟨(by rw [hw]; exact (bw_ HB))⟩; clear hw; clear HO_9; clear BK446; clear BK452; clear BK463; clear HB; have HO_9 := n0_; have BK446 := n1_; have BK452 := n2_; have BK463 := n3_; have HB := n4_; clear n0_ n1_ n2_ n3_ n4_; obtain ⟨hcz76_0, hcz76_1, hfz76_0, hfz76_1⟩ := cz2_ BK463; obtain ⟨Ao77, co77, eo77⟩ := Kd.S_slice HO_9.out; subst eo77; have p464 : 0 ≤ (a2 : Int) := of_decide_eq_true (by first | (with_reducible assumption) | assumption); have q464 : a2 < (t441.length : Int) := of_decide_eq_true (by first | (with_reducible assumption) | assumption); obtain ⟨ad464, A464_1, c464_1, e464, hx464_0, hx464_1, hl464_1, hi464_1⟩ := at_T68 (Kd.S_reads' HO_9.out).2.2 a2 p464 q464; cases e464; obtain ⟨ce464, hce464, hMe464, hcc464⟩ := Kd.S_get HO_9.out z68 a2 p464 (by first | exact q464 | exact of_decide_eq_true (by first | (with_reducible assumption) | assumption) | (have e_ := (Kd.S_reads' HO_9.out).1; omega)); obtain ⟨ve464_1, rfl, ge464_1⟩ := k68_openM hMe464; have hv464_1 := hcc464 1 _ rfl; rw [add_field _ _ 1 (by omega)] at hv464_1; replace hv464_1 := Option.some.inj (hv464_1.symm.trans hx464_1); rw [hv464_1] at ge464_1; have HL464_1 := Aside0.mk (show Kd.R (Kd.int .i64) 3 _ _ _ _ ((rd_T68 t441 a2).f1) from ge464_1); clear hv464_1 ge464_1; clear hcc464 hce464; have HR464_1 := Aside0.mk hi464_1; have HC464_1 := Aside0.mk hl464_1; clear hi464_1 hl464_1; replace p464 := eq_true p464; replace q464 := eq_true q464) | (go_at_call 32; (with_reducible refine (linkhouseref7_Has.calls k3 _ _ ((rd_T68 t441 a2).f1) ((rd_T64 ((rd_T62 l0 a3).f3) x13_3).f1) true _ ?side1 ?side2 A61.out).mono ?_); (case side1 => repeat (first | exact (by repeat (first | (with_reducible exact HR464_1.out) | (with_reducible refine Kd.C_alloc ?_ _) | (with_reducible refine Kd.C_drewN ?_ _) | (with_reducible refine Kd.C_drew ?_) | exact HR464_1.out)) | (with_reducible refine Kd.C_alloc ?_ _) | (with_reducible refine Kd.C_drewN ?_ _) | (with_reducible refine Kd.C_drew ?_))); (case side2 => exact HC464_1.out); rintro e w' ⟨rfl, ⟨nd, rfl⟩⟩; (try first | exact ⟨rfl, _, World.drewN_drewN _ _ _⟩ | exact ⟨rfl, _, Eq.trans (World.drewN_drewN _ _ _) (congrArg (World.drewN _) (Nat.add_assoc _ _ _))⟩); have p466 : 0 ≤ (a2 : Int) := of_decide_eq_true (by first | (with_reducible assumption) | assumption); have q466 : a2 < (t441.length : Int) := of_decide_eq_true (by first | (with_reducible assumption) | assumption); obtain ⟨ad466, A466_1, c466_1, e466, hx466_0, hx466_1, hl466_1, hi466_1⟩ := at_T68 (Kd.S_reads' HO_9.out).2.2 a2 p466 q466; obtain rfl : ad464 = ad466 := (by injection e466); obtain ⟨ce466, hce466, hMe466, hcc466⟩ := Kd.S_get HO_9.out z68 a2 p466 (by first | exact q466 | exact of_decide_eq_true (by first | (with_reducible assumption) | assumption) | (have e_ := (Kd.S_reads' HO_9.out).1; omega)); obtain ⟨ve466_1, rfl, ge466_1⟩ := k68_openM hMe466; have hv466_1 := hcc466 1 _ rfl; rw [add_field _ _ 1 (by omega)] at hv466_1; replace hv466_1 := Option.some.inj (hv466_1.symm.trans hx466_1); rw [hv466_1] at ge466_1; have HL466_1 := Aside0.mk (show Kd.R (Kd.int .i64) 3 _ _ _ _ ((rd_T68 t441 a2).f1) from ge466_1); clear hv466_1 ge466_1; clear hcc466 hce466; have HR466_1 := Aside0.mk hi466_1; have HC466_1 := Aside0.mk hl466_1; clear hi466_1 hl466_1; replace p466 := eq_true p466; replace q466 := eq_true q466; have ea_ := Option.some.inj (hx464_1.symm.trans hx466_1); injection ea_ with ea_ en_ ec_; subst ea_; subst ec_; clear en_))
                   repeat (go_quiet (first | ((with_reducible refine gate_dst (N := 14) rfl ?_); (try (refine gate_guard (by rfl) ?_; dsimp only)); refine bx_ (N := 14) (cs := #[.int .i64 0, .int .i64 0]) (t := 64) ?_; intro gb463 hg w71 hbox hb; have n0_ := Aside0.mk (Kd.S_below (by (with_reducible repeat (first | apply Kd.S_alloc | apply Kd.S_drewN | apply Kd.S_drew)); exact HO_9.out) hb); have n1_ := Aside0.mk (blk_below (g := gb446) (o := .cells #[.int .i64 t444, .int .i64 t445] 28 (0, 0)) (bk_ BK446) hb); have n2_ := Aside0.mk (blk_below (g := gb452) (o := .cells #[.int .i64 t450, .int .i64 t451] 28 (0, 0)) (bk_ BK452) hb); have n3_ := Aside0.mk (below_step (bw_ HB) hb); have n4_ := Aside0.mk (hbox); have n5_ := Aside0.mk ((by rw [hg]; exact (below_size (bw_ HB)) : w.heap.size ≤ gb463)); have n6_ := Aside0.mk ((by rw [hg]; exact (below_size (bw_ HB)) : w.heap.size ≤ gb463)); have n7_ := Aside0.mk ((by rw [hg]; exact Nat.ne_of_lt (blk_lt (g := gb446) (o := .cells #[.int .i64 t444, .int .i64 t445] 28 (0, 0)) (bk_ BK446)) : gb446 ≠ gb463)); have n8_ := Aside0.mk ((by rw [hg]; exact Nat.ne_of_gt (blk_lt (g := gb446) (o := .cells #[.int .i64 t444, .int .i64 t445] 28 (0, 0)) (bk_ BK446)) : gb463 ≠ gb446)); have n9_ := Aside0.mk ((by rw [hg]; exact Nat.ne_of_lt (blk_lt (g := gb452) (o := .cells #[.int .i64 t450, .int .i64 t451] 28 (0, 0)) (bk_ BK452)) : gb452 ≠ gb463)); have n10_ := Aside0.mk ((by rw [hg]; exact Nat.ne_of_gt (blk_lt (g := gb452) (o := .cells #[.int .i64 t450, .int .i64 t451] 28 (0, 0)) (bk_ BK452)) : gb463 ≠ gb452)); clear HO_9; clear BK446; clear BK452; clear HB; have HO_9 := n0_; have BK446 := n1_; have BK452 := n2_; have HB := n3_; have BK463 := n4_; have GW463 := n5_; have GE463 := n6_; have NB446_463 := n7_; have NB463_446 := n8_; have NB452_463 := n9_; have NB463_452 := n10_; clear n0_ n1_ n2_ n3_ n4_ n5_ n6_ n7_ n8_ n9_ n10_; clear hb hbox hg; have hnb72 := NB463_446.out; have hnc72 := NB446_463.out; have hnb73 := NB463_452.out; have hnc73 := NB452_463.out; obtain ⟨hcz74_0, hcz74_1, hfz74_0, hfz74_1⟩ := cz2_ BK463) | ((with_reducible refine gate_store (t := 64) (p := 14) rfl ?_); (try (rw [drewN_self w71]; generalize hq_ : World.drewN w71 _ = w71; have n0_ := Aside0.mk (Kd.S_at hq_ HO_9.out); have n1_ := Aside0.mk (blk_at hq_ BK446.out); have n2_ := Aside0.mk (blk_at hq_ BK452.out); have n3_ := Aside0.mk (blk_at hq_ BK463.out); have n4_ := Aside0.mk (below_at hq_ HB.out); clear hq_ HO_9 BK446 BK452 BK463 HB; have HO_9 := n0_; have BK446 := n1_; have BK452 := n2_; have BK463 := n3_; have HB := n4_; clear n0_ n1_ n2_ n3_ n4_)); refine store_event (t := 64) (p := 14) (v := ?vo_w75) (w1 := ((w71.setCell ⟨gb463, 0, none⟩ (.int .i64 ((rd_T64 ((rd_T62 l0 a3).f3) x13_3).f0))).setCell ⟨gb463, 1, none⟩ (.int .i64 ((rd_T64 ((rd_T62 l0 a3).f3) x13_3).f1)))) ?hg ?ho ?hn ?hr ?_; (case ho => rfl); (case hg => rfl); (case hn => rfl); (case hr => first | (go_simp; done) | (go_simp; rfl)); intro w75 hw; have n0_ : Aside0 (Kd.S k68 68 w75 w.heap.size (fun _ => True) v442 t441) := ⟨(by rw [hw]; exact (by (with_reducible repeat (first | apply Kd.S_alloc | apply Kd.S_drewN | apply Kd.S_drew)); exact Kd.S_mono (Kd.S_far (p := ⟨gb463, 1, none⟩) (Kd.S_far (p := ⟨gb463, 0, none⟩) (Kd.S_types HO_9.out BK463.out (by decide)) (fun _ hk => hk.2) (.int .i64 ((rd_T64 ((rd_T62 l0 a3).f3) x13_3).f0))) (fun _ hk => hk.2) (.int .i64 ((rd_T64 ((rd_T62 l0 a3).f3) x13_3).f1))) (fun _ hk => trivial)))⟩; have n1_ : Aside0 (w75.heap[gb446]? = some (.cells #[.int .i64 t444, .int .i64 t445] 28 (0, 0))) := ⟨(by rw [hw]; exact (bk_ BK446))⟩; have n2_ : Aside0 (w75.heap[gb452]? = some (.cells #[.int .i64 t450, .int .i64 t451] 28 (0, 0))) := ⟨(by rw [hw]; exact (bk_ BK452))⟩; have n3_ : Aside0 (w75.heap[gb463]? = some (.cells #[.int .i64 ((rd_T64 ((rd_T62 l0 a3).f3) x13_3).f0), .int .i64 ((rd_T64 ((rd_T62 l0 a3).f3) x13_3).f1)] 64 (0, 0))) := ⟨(by rw [hw]; exact (bk_ BK463))⟩; have n4_ : Aside0 (Below w.heap.size w w75) := ⟨(by rw [hw]; exact (bw_ HB))⟩; clear hw; clear HO_9; clear BK446; clear BK452; clear BK463; clear HB; have HO_9 := n0_; have BK446 := n1_; have BK452 := n2_; have BK463 := n3_; have HB := n4_; clear n0_ n1_ n2_ n3_ n4_; obtain ⟨hcz76_0, hcz76_1, hfz76_0, hfz76_1⟩ := cz2_ BK463; obtain ⟨Ao77, co77, eo77⟩ := Kd.S_slice HO_9.out; subst eo77; have p464 : 0 ≤ (a2 : Int) := of_decide_eq_true (by first | (with_reducible assumption) | assumption); have q464 : a2 < (t441.length : Int) := of_decide_eq_true (by first | (with_reducible assumption) | assumption); obtain ⟨ad464, A464_1, c464_1, e464, hx464_0, hx464_1, hl464_1, hi464_1⟩ := at_T68 (Kd.S_reads' HO_9.out).2.2 a2 p464 q464; cases e464; obtain ⟨ce464, hce464, hMe464, hcc464⟩ := Kd.S_get HO_9.out z68 a2 p464 (by first | exact q464 | exact of_decide_eq_true (by first | (with_reducible assumption) | assumption) | (have e_ := (Kd.S_reads' HO_9.out).1; omega)); obtain ⟨ve464_1, rfl, ge464_1⟩ := k68_openM hMe464; have hv464_1 := hcc464 1 _ rfl; rw [add_field _ _ 1 (by omega)] at hv464_1; replace hv464_1 := Option.some.inj (hv464_1.symm.trans hx464_1); rw [hv464_1] at ge464_1; have HL464_1 := Aside0.mk (show Kd.R (Kd.int .i64) 3 _ _ _ _ ((rd_T68 t441 a2).f1) from ge464_1); clear hv464_1 ge464_1; clear hcc464 hce464; have HR464_1 := Aside0.mk hi464_1; have HC464_1 := Aside0.mk hl464_1; clear hi464_1 hl464_1; replace p464 := eq_true p464; replace q464 := eq_true q464) | (go_at_call 32; (with_reducible refine (linkhouseref7_Has.calls k3 _ _ ((rd_T68 t441 a2).f1) ((rd_T64 ((rd_T62 l0 a3).f3) x13_3).f1) true _ ?side1 ?side2 A61.out).mono ?_); (case side1 => repeat (first | exact (by repeat (first | (with_reducible exact HR464_1.out) | (with_reducible refine Kd.C_alloc ?_ _) | (with_reducible refine Kd.C_drewN ?_ _) | (with_reducible refine Kd.C_drew ?_) | exact HR464_1.out)) | (with_reducible refine Kd.C_alloc ?_ _) | (with_reducible refine Kd.C_drewN ?_ _) | (with_reducible refine Kd.C_drew ?_))); (case side2 => exact HC464_1.out); rintro e w' ⟨rfl, ⟨nd, rfl⟩⟩; (try first | exact ⟨rfl, _, World.drewN_drewN _ _ _⟩ | exact ⟨rfl, _, Eq.trans (World.drewN_drewN _ _ _) (congrArg (World.drewN _) (Nat.add_assoc _ _ _))⟩); have p466 : 0 ≤ (a2 : Int) := of_decide_eq_true (by first | (with_reducible assumption) | assumption); have q466 : a2 < (t441.length : Int) := of_decide_eq_true (by first | (with_reducible assumption) | assumption); obtain ⟨ad466, A466_1, c466_1, e466, hx466_0, hx466_1, hl466_1, hi466_1⟩ := at_T68 (Kd.S_reads' HO_9.out).2.2 a2 p466 q466; obtain rfl : ad464 = ad466 := (by injection e466); obtain ⟨ce466, hce466, hMe466, hcc466⟩ := Kd.S_get HO_9.out z68 a2 p466 (by first | exact q466 | exact of_decide_eq_true (by first | (with_reducible assumption) | assumption) | (have e_ := (Kd.S_reads' HO_9.out).1; omega)); obtain ⟨ve466_1, rfl, ge466_1⟩ := k68_openM hMe466; have hv466_1 := hcc466 1 _ rfl; rw [add_field _ _ 1 (by omega)] at hv466_1; replace hv466_1 := Option.some.inj (hv466_1.symm.trans hx466_1); rw [hv466_1] at ge466_1; have HL466_1 := Aside0.mk (show Kd.R (Kd.int .i64) 3 _ _ _ _ ((rd_T68 t441 a2).f1) from ge466_1); clear hv466_1 ge466_1; clear hcc466 hce466; have HR466_1 := Aside0.mk hi466_1; have HC466_1 := Aside0.mk hl466_1; clear hi466_1 hl466_1; replace p466 := eq_true p466; replace q466 := eq_true q466; have ea_ := Option.some.inj (hx464_1.symm.trans hx466_1); injection ea_ with ea_ en_ ec_; subst ea_; subst ec_; clear en_)); try go_wp2_with (first | ((with_reducible refine gate_dst (N := 14) rfl ?_); (try (refine gate_guard (by rfl) ?_; dsimp only)); refine bx_ (N := 14) (cs := #[.int .i64 0, .int .i64 0]) (t := 64) ?_; intro gb463 hg w71 hbox hb; have n0_ := Aside0.mk (Kd.S_below (by (with_reducible repeat (first | apply Kd.S_alloc | apply Kd.S_drewN | apply Kd.S_drew)); exact HO_9.out) hb); have n1_ := Aside0.mk (blk_below (g := gb446) (o := .cells #[.int .i64 t444, .int .i64 t445] 28 (0, 0)) (bk_ BK446) hb); have n2_ := Aside0.mk (blk_below (g := gb452) (o := .cells #[.int .i64 t450, .int .i64 t451] 28 (0, 0)) (bk_ BK452) hb); have n3_ := Aside0.mk (below_step (bw_ HB) hb); have n4_ := Aside0.mk (hbox); have n5_ := Aside0.mk ((by rw [hg]; exact (below_size (bw_ HB)) : w.heap.size ≤ gb463)); have n6_ := Aside0.mk ((by rw [hg]; exact (below_size (bw_ HB)) : w.heap.size ≤ gb463)); have n7_ := Aside0.mk ((by rw [hg]; exact Nat.ne_of_lt (blk_lt (g := gb446) (o := .cells #[.int .i64 t444, .int .i64 t445] 28 (0, 0)) (bk_ BK446)) : gb446 ≠ gb463)); have n8_ := Aside0.mk ((by rw [hg]; exact Nat.ne_of_gt (blk_lt (g := gb446) (o := .cells #[.int .i64 t444, .int .i64 t445] 28 (0, 0)) (bk_ BK446)) : gb463 ≠ gb446)); have n9_ := Aside0.mk ((by rw [hg]; exact Nat.ne_of_lt (blk_lt (g := gb452) (o := .cells #[.int .i64 t450, .int .i64 t451] 28 (0, 0)) (bk_ BK452)) : gb452 ≠ gb463)); have n10_ := Aside0.mk ((by rw [hg]; exact Nat.ne_of_gt (blk_lt (g := gb452) (o := .cells #[.int .i64 t450, .int .i64 t451] 28 (0, 0)) (bk_ BK452)) : gb463 ≠ gb452)); clear HO_9; clear BK446; clear BK452; clear HB; have HO_9 := n0_; have BK446 := n1_; have BK452 := n2_; have HB := n3_; have BK463 := n4_; have GW463 := n5_; have GE463 := n6_; have NB446_463 := n7_; have NB463_446 := n8_; have NB452_463 := n9_; have NB463_452 := n10_; clear n0_ n1_ n2_ n3_ n4_ n5_ n6_ n7_ n8_ n9_ n10_; clear hb hbox hg; have hnb72 := NB463_446.out; have hnc72 := NB446_463.out; have hnb73 := NB463_452.out; have hnc73 := NB452_463.out; obtain ⟨hcz74_0, hcz74_1, hfz74_0, hfz74_1⟩ := cz2_ BK463) | ((with_reducible refine gate_store (t := 64) (p := 14) rfl ?_); (try (rw [drewN_self w71]; generalize hq_ : World.drewN w71 _ = w71; have n0_ := Aside0.mk (Kd.S_at hq_ HO_9.out); have n1_ := Aside0.mk (blk_at hq_ BK446.out); have n2_ := Aside0.mk (blk_at hq_ BK452.out); have n3_ := Aside0.mk (blk_at hq_ BK463.out); have n4_ := Aside0.mk (below_at hq_ HB.out); clear hq_ HO_9 BK446 BK452 BK463 HB; have HO_9 := n0_; have BK446 := n1_; have BK452 := n2_; have BK463 := n3_; have HB := n4_; clear n0_ n1_ n2_ n3_ n4_)); refine store_event (t := 64) (p := 14) (v := ?vo_w75) (w1 := ((w71.setCell ⟨gb463, 0, none⟩ (.int .i64 ((rd_T64 ((rd_T62 l0 a3).f3) x13_3).f0))).setCell ⟨gb463, 1, none⟩ (.int .i64 ((rd_T64 ((rd_T62 l0 a3).f3) x13_3).f1)))) ?hg ?ho ?hn ?hr ?_; (case ho => rfl); (case hg => rfl); (case hn => rfl); (case hr => first | (go_simp; done) | (go_simp; rfl)); intro w75 hw; have n0_ : Aside0 (Kd.S k68 68 w75 w.heap.size (fun _ => True) v442 t441) := ⟨(by rw [hw]; exact (by (with_reducible repeat (first | apply Kd.S_alloc | apply Kd.S_drewN | apply Kd.S_drew)); exact Kd.S_mono (Kd.S_far (p := ⟨gb463, 1, none⟩) (Kd.S_far (p := ⟨gb463, 0, none⟩) (Kd.S_types HO_9.out BK463.out (by decide)) (fun _ hk => hk.2) (.int .i64 ((rd_T64 ((rd_T62 l0 a3).f3) x13_3).f0))) (fun _ hk => hk.2) (.int .i64 ((rd_T64 ((rd_T62 l0 a3).f3) x13_3).f1))) (fun _ hk => trivial)))⟩; have n1_ : Aside0 (w75.heap[gb446]? = some (.cells #[.int .i64 t444, .int .i64 t445] 28 (0, 0))) := ⟨(by rw [hw]; exact (bk_ BK446))⟩; have n2_ : Aside0 (w75.heap[gb452]? = some (.cells #[.int .i64 t450, .int .i64 t451] 28 (0, 0))) := ⟨(by rw [hw]; exact (bk_ BK452))⟩; have n3_ : Aside0 (w75.heap[gb463]? = some (.cells #[.int .i64 ((rd_T64 ((rd_T62 l0 a3).f3) x13_3).f0), .int .i64 ((rd_T64 ((rd_T62 l0 a3).f3) x13_3).f1)] 64 (0, 0))) := ⟨(by rw [hw]; exact (bk_ BK463))⟩; have n4_ : Aside0 (Below w.heap.size w w75) := ⟨(by rw [hw]; exact (bw_ HB))⟩; clear hw; clear HO_9; clear BK446; clear BK452; clear BK463; clear HB; have HO_9 := n0_; have BK446 := n1_; have BK452 := n2_; have BK463 := n3_; have HB := n4_; clear n0_ n1_ n2_ n3_ n4_; obtain ⟨hcz76_0, hcz76_1, hfz76_0, hfz76_1⟩ := cz2_ BK463; obtain ⟨Ao77, co77, eo77⟩ := Kd.S_slice HO_9.out; subst eo77; have p464 : 0 ≤ (a2 : Int) := of_decide_eq_true (by first | (with_reducible assumption) | assumption); have q464 : a2 < (t441.length : Int) := of_decide_eq_true (by first | (with_reducible assumption) | assumption); obtain ⟨ad464, A464_1, c464_1, e464, hx464_0, hx464_1, hl464_1, hi464_1⟩ := at_T68 (Kd.S_reads' HO_9.out).2.2 a2 p464 q464; cases e464; obtain ⟨ce464, hce464, hMe464, hcc464⟩ := Kd.S_get HO_9.out z68 a2 p464 (by first | exact q464 | exact of_decide_eq_true (by first | (with_reducible assumption) | assumption) | (have e_ := (Kd.S_reads' HO_9.out).1; omega)); obtain ⟨ve464_1, rfl, ge464_1⟩ := k68_openM hMe464; have hv464_1 := hcc464 1 _ rfl; rw [add_field _ _ 1 (by omega)] at hv464_1; replace hv464_1 := Option.some.inj (hv464_1.symm.trans hx464_1); rw [hv464_1] at ge464_1; have HL464_1 := Aside0.mk (show Kd.R (Kd.int .i64) 3 _ _ _ _ ((rd_T68 t441 a2).f1) from ge464_1); clear hv464_1 ge464_1; clear hcc464 hce464; have HR464_1 := Aside0.mk hi464_1; have HC464_1 := Aside0.mk hl464_1; clear hi464_1 hl464_1; replace p464 := eq_true p464; replace q464 := eq_true q464) | (go_at_call 32; (with_reducible refine (linkhouseref7_Has.calls k3 _ _ ((rd_T68 t441 a2).f1) ((rd_T64 ((rd_T62 l0 a3).f3) x13_3).f1) true _ ?side1 ?side2 A61.out).mono ?_); (case side1 => repeat (first | exact (by repeat (first | (with_reducible exact HR464_1.out) | (with_reducible refine Kd.C_alloc ?_ _) | (with_reducible refine Kd.C_drewN ?_ _) | (with_reducible refine Kd.C_drew ?_) | exact HR464_1.out)) | (with_reducible refine Kd.C_alloc ?_ _) | (with_reducible refine Kd.C_drewN ?_ _) | (with_reducible refine Kd.C_drew ?_))); (case side2 => exact HC464_1.out); rintro e w' ⟨rfl, ⟨nd, rfl⟩⟩; (try first | exact ⟨rfl, _, World.drewN_drewN _ _ _⟩ | exact ⟨rfl, _, Eq.trans (World.drewN_drewN _ _ _) (congrArg (World.drewN _) (Nat.add_assoc _ _ _))⟩); have p466 : 0 ≤ (a2 : Int) := of_decide_eq_true (by first | (with_reducible assumption) | assumption); have q466 : a2 < (t441.length : Int) := of_decide_eq_true (by first | (with_reducible assumption) | assumption); obtain ⟨ad466, A466_1, c466_1, e466, hx466_0, hx466_1, hl466_1, hi466_1⟩ := at_T68 (Kd.S_reads' HO_9.out).2.2 a2 p466 q466; obtain rfl : ad464 = ad466 := (by injection e466); obtain ⟨ce466, hce466, hMe466, hcc466⟩ := Kd.S_get HO_9.out z68 a2 p466 (by first | exact q466 | exact of_decide_eq_true (by first | (with_reducible assumption) | assumption) | (have e_ := (Kd.S_reads' HO_9.out).1; omega)); obtain ⟨ve466_1, rfl, ge466_1⟩ := k68_openM hMe466; have hv466_1 := hcc466 1 _ rfl; rw [add_field _ _ 1 (by omega)] at hv466_1; replace hv466_1 := Option.some.inj (hv466_1.symm.trans hx466_1); rw [hv466_1] at ge466_1; have HL466_1 := Aside0.mk (show Kd.R (Kd.int .i64) 3 _ _ _ _ ((rd_T68 t441 a2).f1) from ge466_1); clear hv466_1 ge466_1; clear hcc466 hce466; have HR466_1 := Aside0.mk hi466_1; have HC466_1 := Aside0.mk hl466_1; clear hi466_1 hl466_1; replace p466 := eq_true p466; replace q466 := eq_true q466; have ea_ := Option.some.inj (hx464_1.symm.trans hx466_1); injection ea_ with ea_ en_ ec_; subst ea_; subst ec_; clear en_)))
                   go_ret
                   exact ⟨id_, bw_ HB⟩
                 ·
                  replace c62 := Bool.eq_false_iff.mpr c62
                  subst c62
                  have H1 : (linkhouselaw7_FlowLoopsAreEnteredAtHeads.l0 k3 l0 a2 a3 t441 (wrap64 (x13_3 + 1))) = some r := by rw [if_neg (show ¬ (false = true) by decide)] at H; exact H
                  clear H
                  have H := H1
                  clear H1
                  have H' := Aside0.mk H
                  clear H
                  have p460 : 0 ≤ (a3 : Int) := of_decide_eq_true (by first | (with_reducible assumption) | assumption)
                  have q460 : a3 < (l0.length : Int) := of_decide_eq_true (by first | (with_reducible assumption) | assumption)
                  obtain ⟨ad460, A460_3, c460_3, e460, hx460_0, hx460_1, hx460_2, hx460_3, hl460_3, hi460_3⟩ := at_T62 HR0.out a3 p460 q460
                  cases e460
                  replace hx460_0 := (HB.out.cell (World.block_lt_of_cell? w _ hx460_0)).trans hx460_0
                  replace hx460_1 := (HB.out.cell (World.block_lt_of_cell? w _ hx460_1)).trans hx460_1
                  replace hx460_2 := (HB.out.cell (World.block_lt_of_cell? w _ hx460_2)).trans hx460_2
                  replace hx460_3 := (HB.out.cell (World.block_lt_of_cell? w _ hx460_3)).trans hx460_3
                  have HR460_3 := Aside0.mk hi460_3
                  have HC460_3 := Aside0.mk hl460_3
                  clear hi460_3 hl460_3
                  replace p460 := eq_true p460
                  replace q460 := eq_true q460
                  have p461 : 0 ≤ (a3 : Int) := of_decide_eq_true (by first | (with_reducible assumption) | assumption)
                  have q461 : a3 < (l0.length : Int) := of_decide_eq_true (by first | (with_reducible assumption) | assumption)
                  obtain ⟨ad461, A461_3, c461_3, e461, hx461_0, hx461_1, hx461_2, hx461_3, hl461_3, hi461_3⟩ := at_T62 HR0.out a3 p461 q461
                  obtain rfl : ad460 = ad461 := (by injection e461)
                  replace hx461_0 := (HB.out.cell (World.block_lt_of_cell? w _ hx461_0)).trans hx461_0
                  replace hx461_1 := (HB.out.cell (World.block_lt_of_cell? w _ hx461_1)).trans hx461_1
                  replace hx461_2 := (HB.out.cell (World.block_lt_of_cell? w _ hx461_2)).trans hx461_2
                  replace hx461_3 := (HB.out.cell (World.block_lt_of_cell? w _ hx461_3)).trans hx461_3
                  have HR461_3 := Aside0.mk hi461_3
                  have HC461_3 := Aside0.mk hl461_3
                  clear hi461_3 hl461_3
                  replace p461 := eq_true p461
                  replace q461 := eq_true q461
                  have ea_ := Option.some.inj (hx460_3.symm.trans hx461_3)
                  injection ea_ with ea_ en_ ec_
                  subst ea_
                  subst ec_
                  clear en_
                  have p462 : 0 ≤ (x13_3 : Int) := of_decide_eq_true (by first | (with_reducible assumption) | assumption)
                  have q462 : x13_3 < (((rd_T62 l0 a3).f3).length : Int) := of_decide_eq_true (by first | (with_reducible assumption) | assumption)
                  obtain ⟨ad462, e462, hx462_0, hx462_1⟩ := at_T64 HR461_3.out x13_3 p462 q462
                  cases e462
                  replace hx462_0 := (HB.out.cell (World.block_lt_of_cell? w _ hx462_0)).trans hx462_0
                  replace hx462_1 := (HB.out.cell (World.block_lt_of_cell? w _ hx462_1)).trans hx462_1
                  replace p462 := eq_true p462
                  replace q462 := eq_true q462
                  go_wp2_with (first | ((with_reducible refine gate_dst (N := 14) rfl ?_); (try (refine gate_guard (by rfl) ?_; dsimp only)); refine bx_ (N := 14) (cs := #[.int .i64 0, .int .i64 0]) (t := 64) ?_; intro gb463 hg w78 hbox hb; have n0_ := Aside0.mk (Kd.S_below (by (with_reducible repeat (first | apply Kd.S_alloc | apply Kd.S_drewN | apply Kd.S_drew)); exact HO_9.out) hb); have n1_ := Aside0.mk (blk_below (g := gb446) (o := .cells #[.int .i64 t444, .int .i64 t445] 28 (0, 0)) (bk_ BK446) hb); have n2_ := Aside0.mk (blk_below (g := gb452) (o := .cells #[.int .i64 t450, .int .i64 t451] 28 (0, 0)) (bk_ BK452) hb); have n3_ := Aside0.mk (below_step (bw_ HB) hb); have n4_ := Aside0.mk (hbox); have n5_ := Aside0.mk ((by rw [hg]; exact (below_size (bw_ HB)) : w.heap.size ≤ gb463)); have n6_ := Aside0.mk ((by rw [hg]; exact (below_size (bw_ HB)) : w.heap.size ≤ gb463)); have n7_ := Aside0.mk ((by rw [hg]; exact Nat.ne_of_lt (blk_lt (g := gb446) (o := .cells #[.int .i64 t444, .int .i64 t445] 28 (0, 0)) (bk_ BK446)) : gb446 ≠ gb463)); have n8_ := Aside0.mk ((by rw [hg]; exact Nat.ne_of_gt (blk_lt (g := gb446) (o := .cells #[.int .i64 t444, .int .i64 t445] 28 (0, 0)) (bk_ BK446)) : gb463 ≠ gb446)); have n9_ := Aside0.mk ((by rw [hg]; exact Nat.ne_of_lt (blk_lt (g := gb452) (o := .cells #[.int .i64 t450, .int .i64 t451] 28 (0, 0)) (bk_ BK452)) : gb452 ≠ gb463)); have n10_ := Aside0.mk ((by rw [hg]; exact Nat.ne_of_gt (blk_lt (g := gb452) (o := .cells #[.int .i64 t450, .int .i64 t451] 28 (0, 0)) (bk_ BK452)) : gb463 ≠ gb452)); clear HO_9; clear BK446; clear BK452; clear HB; have HO_9 := n0_; have BK446 := n1_; have BK452 := n2_; have HB := n3_; have BK463 := n4_; have GW463 := n5_; have GE463 := n6_; have NB446_463 := n7_; have NB463_446 := n8_; have NB452_463 := n9_; have NB463_452 := n10_; clear n0_ n1_ n2_ n3_ n4_ n5_ n6_ n7_ n8_ n9_ n10_; clear hb hbox hg; have hnb79 := NB463_446.out; have hnc79 := NB446_463.out; have hnb80 := NB463_452.out; have hnc80 := NB452_463.out; obtain ⟨hcz81_0, hcz81_1, hfz81_0, hfz81_1⟩ := cz2_ BK463) | ((with_reducible refine gate_store (t := 64) (p := 14) rfl ?_); (try (rw [drewN_self w78]; generalize hq_ : World.drewN w78 _ = w78; have n0_ := Aside0.mk (Kd.S_at hq_ HO_9.out); have n1_ := Aside0.mk (blk_at hq_ BK446.out); have n2_ := Aside0.mk (blk_at hq_ BK452.out); have n3_ := Aside0.mk (blk_at hq_ BK463.out); have n4_ := Aside0.mk (below_at hq_ HB.out); clear hq_ HO_9 BK446 BK452 BK463 HB; have HO_9 := n0_; have BK446 := n1_; have BK452 := n2_; have BK463 := n3_; have HB := n4_; clear n0_ n1_ n2_ n3_ n4_)); refine store_event (t := 64) (p := 14) (v := ?vo_w82) (w1 := ((w78.setCell ⟨gb463, 0, none⟩ (.int .i64 ((rd_T64 ((rd_T62 l0 a3).f3) x13_3).f0))).setCell ⟨gb463, 1, none⟩ (.int .i64 ((rd_T64 ((rd_T62 l0 a3).f3) x13_3).f1)))) ?hg ?ho ?hn ?hr ?_; (case ho => rfl); (case hg => rfl); (case hn => rfl); (case hr => first | (go_simp; done) | (go_simp; rfl)); intro w82 hw; have n0_ : Aside0 (Kd.S k68 68 w82 w.heap.size (fun _ => True) v442 t441) := ⟨(by rw [hw]; exact (by (with_reducible repeat (first | apply Kd.S_alloc | apply Kd.S_drewN | apply Kd.S_drew)); exact Kd.S_mono (Kd.S_far (p := ⟨gb463, 1, none⟩) (Kd.S_far (p := ⟨gb463, 0, none⟩) (Kd.S_types HO_9.out BK463.out (by decide)) (fun _ hk => hk.2) (.int .i64 ((rd_T64 ((rd_T62 l0 a3).f3) x13_3).f0))) (fun _ hk => hk.2) (.int .i64 ((rd_T64 ((rd_T62 l0 a3).f3) x13_3).f1))) (fun _ hk => trivial)))⟩; have n1_ : Aside0 (w82.heap[gb446]? = some (.cells #[.int .i64 t444, .int .i64 t445] 28 (0, 0))) := ⟨(by rw [hw]; exact (bk_ BK446))⟩; have n2_ : Aside0 (w82.heap[gb452]? = some (.cells #[.int .i64 t450, .int .i64 t451] 28 (0, 0))) := ⟨(by rw [hw]; exact (bk_ BK452))⟩; have n3_ : Aside0 (w82.heap[gb463]? = some (.cells #[.int .i64 ((rd_T64 ((rd_T62 l0 a3).f3) x13_3).f0), .int .i64 ((rd_T64 ((rd_T62 l0 a3).f3) x13_3).f1)] 64 (0, 0))) := ⟨(by rw [hw]; exact (bk_ BK463))⟩; have n4_ : Aside0 (Below w.heap.size w w82) := ⟨(by rw [hw]; exact (bw_ HB))⟩; clear hw; clear HO_9; clear BK446; clear BK452; clear BK463; clear HB; have HO_9 := n0_; have BK446 := n1_; have BK452 := n2_; have BK463 := n3_; have HB := n4_; clear n0_ n1_ n2_ n3_ n4_; obtain ⟨hcz83_0, hcz83_1, hfz83_0, hfz83_1⟩ := cz2_ BK463; obtain ⟨Ao84, co84, eo84⟩ := Kd.S_slice HO_9.out; subst eo84; have p464 : 0 ≤ (a2 : Int) := of_decide_eq_true (by first | (with_reducible assumption) | assumption); have q464 : a2 < (t441.length : Int) := of_decide_eq_true (by first | (with_reducible assumption) | assumption); obtain ⟨ad464, A464_1, c464_1, e464, hx464_0, hx464_1, hl464_1, hi464_1⟩ := at_T68 (Kd.S_reads' HO_9.out).2.2 a2 p464 q464; cases e464; obtain ⟨ce464, hce464, hMe464, hcc464⟩ := Kd.S_get HO_9.out z68 a2 p464 (by first | exact q464 | exact of_decide_eq_true (by first | (with_reducible assumption) | assumption) | (have e_ := (Kd.S_reads' HO_9.out).1; omega)); obtain ⟨ve464_1, rfl, ge464_1⟩ := k68_openM hMe464; have hv464_1 := hcc464 1 _ rfl; rw [add_field _ _ 1 (by omega)] at hv464_1; replace hv464_1 := Option.some.inj (hv464_1.symm.trans hx464_1); rw [hv464_1] at ge464_1; have HL464_1 := Aside0.mk (show Kd.R (Kd.int .i64) 3 _ _ _ _ ((rd_T68 t441 a2).f1) from ge464_1); clear hv464_1 ge464_1; clear hcc464 hce464; have HR464_1 := Aside0.mk hi464_1; have HC464_1 := Aside0.mk hl464_1; clear hi464_1 hl464_1; replace p464 := eq_true p464; replace q464 := eq_true q464) | (go_at_call 32; (with_reducible refine (linkhouseref7_Has.calls k3 _ _ ((rd_T68 t441 a2).f1) ((rd_T64 ((rd_T62 l0 a3).f3) x13_3).f1) false _ ?side1 ?side2 A61.out).mono ?_); (case side1 => repeat (first | exact (by repeat (first | (with_reducible exact HR464_1.out) | (with_reducible refine Kd.C_alloc ?_ _) | (with_reducible refine Kd.C_drewN ?_ _) | (with_reducible refine Kd.C_drew ?_) | exact HR464_1.out)) | (with_reducible refine Kd.C_alloc ?_ _) | (with_reducible refine Kd.C_drewN ?_ _) | (with_reducible refine Kd.C_drew ?_))); (case side2 => exact HC464_1.out); rintro e w' ⟨rfl, ⟨nd, rfl⟩⟩; (try first | exact ⟨rfl, _, World.drewN_drewN _ _ _⟩ | exact ⟨rfl, _, Eq.trans (World.drewN_drewN _ _ _) (congrArg (World.drewN _) (Nat.add_assoc _ _ _))⟩)))
                  repeat (go_quiet (first | ((with_reducible refine gate_dst (N := 14) rfl ?_); (try (refine gate_guard (by rfl) ?_; dsimp only)); refine bx_ (N := 14) (cs := #[.int .i64 0, .int .i64 0]) (t := 64) ?_; intro gb463 hg w78 hbox hb; have n0_ := Aside0.mk (Kd.S_below (by (with_reducible repeat (first | apply Kd.S_alloc | apply Kd.S_drewN | apply Kd.S_drew)); exact HO_9.out) hb); have n1_ := Aside0.mk (blk_below (g := gb446) (o := .cells #[.int .i64 t444, .int .i64 t445] 28 (0, 0)) (bk_ BK446) hb); have n2_ := Aside0.mk (blk_below (g := gb452) (o := .cells #[.int .i64 t450, .int .i64 t451] 28 (0, 0)) (bk_ BK452) hb); have n3_ := Aside0.mk (below_step (bw_ HB) hb); have n4_ := Aside0.mk (hbox); have n5_ := Aside0.mk ((by rw [hg]; exact (below_size (bw_ HB)) : w.heap.size ≤ gb463)); have n6_ := Aside0.mk ((by rw [hg]; exact (below_size (bw_ HB)) : w.heap.size ≤ gb463)); have n7_ := Aside0.mk ((by rw [hg]; exact Nat.ne_of_lt (blk_lt (g := gb446) (o := .cells #[.int .i64 t444, .int .i64 t445] 28 (0, 0)) (bk_ BK446)) : gb446 ≠ gb463)); have n8_ := Aside0.mk ((by rw [hg]; exact Nat.ne_of_gt (blk_lt (g := gb446) (o := .cells #[.int .i64 t444, .int .i64 t445] 28 (0, 0)) (bk_ BK446)) : gb463 ≠ gb446)); have n9_ := Aside0.mk ((by rw [hg]; exact Nat.ne_of_lt (blk_lt (g := gb452) (o := .cells #[.int .i64 t450, .int .i64 t451] 28 (0, 0)) (bk_ BK452)) : gb452 ≠ gb463)); have n10_ := Aside0.mk ((by rw [hg]; exact Nat.ne_of_gt (blk_lt (g := gb452) (o := .cells #[.int .i64 t450, .int .i64 t451] 28 (0, 0)) (bk_ BK452)) : gb463 ≠ gb452)); clear HO_9; clear BK446; clear BK452; clear HB; have HO_9 := n0_; have BK446 := n1_; have BK452 := n2_; have HB := n3_; have BK463 := n4_; have GW463 := n5_; have GE463 := n6_; have NB446_463 := n7_; have NB463_446 := n8_; have NB452_463 := n9_; have NB463_452 := n10_; clear n0_ n1_ n2_ n3_ n4_ n5_ n6_ n7_ n8_ n9_ n10_; clear hb hbox hg; have hnb79 := NB463_446.out; have hnc79 := NB446_463.out; have hnb80 := NB463_452.out; have hnc80 := NB452_463.out; obtain ⟨hcz81_0, hcz81_1, hfz81_0, hfz81_1⟩ := cz2_ BK463) | ((with_reducible refine gate_store (t := 64) (p := 14) rfl ?_); (try (rw [drewN_self w78]; generalize hq_ : World.drewN w78 _ = w78; have n0_ := Aside0.mk (Kd.S_at hq_ HO_9.out); have n1_ := Aside0.mk (blk_at hq_ BK446.out); have n2_ := Aside0.mk (blk_at hq_ BK452.out); have n3_ := Aside0.mk (blk_at hq_ BK463.out); have n4_ := Aside0.mk (below_at hq_ HB.out); clear hq_ HO_9 BK446 BK452 BK463 HB; have HO_9 := n0_; have BK446 := n1_; have BK452 := n2_; have BK463 := n3_; have HB := n4_; clear n0_ n1_ n2_ n3_ n4_)); refine store_event (t := 64) (p := 14) (v := ?vo_w82) (w1 := ((w78.setCell ⟨gb463, 0, none⟩ (.int .i64 ((rd_T64 ((rd_T62 l0 a3).f3) x13_3).f0))).setCell ⟨gb463, 1, none⟩ (.int .i64 ((rd_T64 ((rd_T62 l0 a3).f3) x13_3).f1)))) ?hg ?ho ?hn ?hr ?_; (case ho => rfl); (case hg => rfl); (case hn => rfl); (case hr => first | (go_simp; done) | (go_simp; rfl)); intro w82 hw; have n0_ : Aside0 (Kd.S k68 68 w82 w.heap.size (fun _ => True) v442 t441) := ⟨(by rw [hw]; exact (by (with_reducible repeat (first | apply Kd.S_alloc | apply Kd.S_drewN | apply Kd.S_drew)); exact Kd.S_mono (Kd.S_far (p := ⟨gb463, 1, none⟩) (Kd.S_far (p := ⟨gb463, 0, none⟩) (Kd.S_types HO_9.out BK463.out (by decide)) (fun _ hk => hk.2) (.int .i64 ((rd_T64 ((rd_T62 l0 a3).f3) x13_3).f0))) (fun _ hk => hk.2) (.int .i64 ((rd_T64 ((rd_T62 l0 a3).f3) x13_3).f1))) (fun _ hk => trivial)))⟩; have n1_ : Aside0 (w82.heap[gb446]? = some (.cells #[.int .i64 t444, .int .i64 t445] 28 (0, 0))) := ⟨(by rw [hw]; exact (bk_ BK446))⟩; have n2_ : Aside0 (w82.heap[gb452]? = some (.cells #[.int .i64 t450, .int .i64 t451] 28 (0, 0))) := ⟨(by rw [hw]; exact (bk_ BK452))⟩; have n3_ : Aside0 (w82.heap[gb463]? = some (.cells #[.int .i64 ((rd_T64 ((rd_T62 l0 a3).f3) x13_3).f0), .int .i64 ((rd_T64 ((rd_T62 l0 a3).f3) x13_3).f1)] 64 (0, 0))) := ⟨(by rw [hw]; exact (bk_ BK463))⟩; have n4_ : Aside0 (Below w.heap.size w w82) := ⟨(by rw [hw]; exact (bw_ HB))⟩; clear hw; clear HO_9; clear BK446; clear BK452; clear BK463; clear HB; have HO_9 := n0_; have BK446 := n1_; have BK452 := n2_; have BK463 := n3_; have HB := n4_; clear n0_ n1_ n2_ n3_ n4_; obtain ⟨hcz83_0, hcz83_1, hfz83_0, hfz83_1⟩ := cz2_ BK463; obtain ⟨Ao84, co84, eo84⟩ := Kd.S_slice HO_9.out; subst eo84; have p464 : 0 ≤ (a2 : Int) := of_decide_eq_true (by first | (with_reducible assumption) | assumption); have q464 : a2 < (t441.length : Int) := of_decide_eq_true (by first | (with_reducible assumption) | assumption); obtain ⟨ad464, A464_1, c464_1, e464, hx464_0, hx464_1, hl464_1, hi464_1⟩ := at_T68 (Kd.S_reads' HO_9.out).2.2 a2 p464 q464; cases e464; obtain ⟨ce464, hce464, hMe464, hcc464⟩ := Kd.S_get HO_9.out z68 a2 p464 (by first | exact q464 | exact of_decide_eq_true (by first | (with_reducible assumption) | assumption) | (have e_ := (Kd.S_reads' HO_9.out).1; omega)); obtain ⟨ve464_1, rfl, ge464_1⟩ := k68_openM hMe464; have hv464_1 := hcc464 1 _ rfl; rw [add_field _ _ 1 (by omega)] at hv464_1; replace hv464_1 := Option.some.inj (hv464_1.symm.trans hx464_1); rw [hv464_1] at ge464_1; have HL464_1 := Aside0.mk (show Kd.R (Kd.int .i64) 3 _ _ _ _ ((rd_T68 t441 a2).f1) from ge464_1); clear hv464_1 ge464_1; clear hcc464 hce464; have HR464_1 := Aside0.mk hi464_1; have HC464_1 := Aside0.mk hl464_1; clear hi464_1 hl464_1; replace p464 := eq_true p464; replace q464 := eq_true q464) | (go_at_call 32; (with_reducible refine (linkhouseref7_Has.calls k3 _ _ ((rd_T68 t441 a2).f1) ((rd_T64 ((rd_T62 l0 a3).f3) x13_3).f1) false _ ?side1 ?side2 A61.out).mono ?_); (case side1 => repeat (first | exact (by repeat (first | (with_reducible exact HR464_1.out) | (with_reducible refine Kd.C_alloc ?_ _) | (with_reducible refine Kd.C_drewN ?_ _) | (with_reducible refine Kd.C_drew ?_) | exact HR464_1.out)) | (with_reducible refine Kd.C_alloc ?_ _) | (with_reducible refine Kd.C_drewN ?_ _) | (with_reducible refine Kd.C_drew ?_))); (case side2 => exact HC464_1.out); rintro e w' ⟨rfl, ⟨nd, rfl⟩⟩; (try first | exact ⟨rfl, _, World.drewN_drewN _ _ _⟩ | exact ⟨rfl, _, Eq.trans (World.drewN_drewN _ _ _) (congrArg (World.drewN _) (Nat.add_assoc _ _ _))⟩))); try go_wp2_with (first | ((with_reducible refine gate_dst (N := 14) rfl ?_); (try (refine gate_guard (by rfl) ?_; dsimp only)); refine bx_ (N := 14) (cs := #[.int .i64 0, .int .i64 0]) (t := 64) ?_; intro gb463 hg w78 hbox hb; have n0_ := Aside0.mk (Kd.S_below (by (with_reducible repeat (first | apply Kd.S_alloc | apply Kd.S_drewN | apply Kd.S_drew)); exact HO_9.out) hb); have n1_ := Aside0.mk (blk_below (g := gb446) (o := .cells #[.int .i64 t444, .int .i64 t445] 28 (0, 0)) (bk_ BK446) hb); have n2_ := Aside0.mk (blk_below (g := gb452) (o := .cells #[.int .i64 t450, .int .i64 t451] 28 (0, 0)) (bk_ BK452) hb); have n3_ := Aside0.mk (below_step (bw_ HB) hb); have n4_ := Aside0.mk (hbox); have n5_ := Aside0.mk ((by rw [hg]; exact (below_size (bw_ HB)) : w.heap.size ≤ gb463)); have n6_ := Aside0.mk ((by rw [hg]; exact (below_size (bw_ HB)) : w.heap.size ≤ gb463)); have n7_ := Aside0.mk ((by rw [hg]; exact Nat.ne_of_lt (blk_lt (g := gb446) (o := .cells #[.int .i64 t444, .int .i64 t445] 28 (0, 0)) (bk_ BK446)) : gb446 ≠ gb463)); have n8_ := Aside0.mk ((by rw [hg]; exact Nat.ne_of_gt (blk_lt (g := gb446) (o := .cells #[.int .i64 t444, .int .i64 t445] 28 (0, 0)) (bk_ BK446)) : gb463 ≠ gb446)); have n9_ := Aside0.mk ((by rw [hg]; exact Nat.ne_of_lt (blk_lt (g := gb452) (o := .cells #[.int .i64 t450, .int .i64 t451] 28 (0, 0)) (bk_ BK452)) : gb452 ≠ gb463)); have n10_ := Aside0.mk ((by rw [hg]; exact Nat.ne_of_gt (blk_lt (g := gb452) (o := .cells #[.int .i64 t450, .int .i64 t451] 28 (0, 0)) (bk_ BK452)) : gb463 ≠ gb452)); clear HO_9; clear BK446; clear BK452; clear HB; have HO_9 := n0_; have BK446 := n1_; have BK452 := n2_; have HB := n3_; have BK463 := n4_; have GW463 := n5_; have GE463 := n6_; have NB446_463 := n7_; have NB463_446 := n8_; have NB452_463 := n9_; have NB463_452 := n10_; clear n0_ n1_ n2_ n3_ n4_ n5_ n6_ n7_ n8_ n9_ n10_; clear hb hbox hg; have hnb79 := NB463_446.out; have hnc79 := NB446_463.out; have hnb80 := NB463_452.out; have hnc80 := NB452_463.out; obtain ⟨hcz81_0, hcz81_1, hfz81_0, hfz81_1⟩ := cz2_ BK463) | ((with_reducible refine gate_store (t := 64) (p := 14) rfl ?_); (try (rw [drewN_self w78]; generalize hq_ : World.drewN w78 _ = w78; have n0_ := Aside0.mk (Kd.S_at hq_ HO_9.out); have n1_ := Aside0.mk (blk_at hq_ BK446.out); have n2_ := Aside0.mk (blk_at hq_ BK452.out); have n3_ := Aside0.mk (blk_at hq_ BK463.out); have n4_ := Aside0.mk (below_at hq_ HB.out); clear hq_ HO_9 BK446 BK452 BK463 HB; have HO_9 := n0_; have BK446 := n1_; have BK452 := n2_; have BK463 := n3_; have HB := n4_; clear n0_ n1_ n2_ n3_ n4_)); refine store_event (t := 64) (p := 14) (v := ?vo_w82) (w1 := ((w78.setCell ⟨gb463, 0, none⟩ (.int .i64 ((rd_T64 ((rd_T62 l0 a3).f3) x13_3).f0))).setCell ⟨gb463, 1, none⟩ (.int .i64 ((rd_T64 ((rd_T62 l0 a3).f3) x13_3).f1)))) ?hg ?ho ?hn ?hr ?_; (case ho => rfl); (case hg => rfl); (case hn => rfl); (case hr => first | (go_simp; done) | (go_simp; rfl)); intro w82 hw; have n0_ : Aside0 (Kd.S k68 68 w82 w.heap.size (fun _ => True) v442 t441) := ⟨(by rw [hw]; exact (by (with_reducible repeat (first | apply Kd.S_alloc | apply Kd.S_drewN | apply Kd.S_drew)); exact Kd.S_mono (Kd.S_far (p := ⟨gb463, 1, none⟩) (Kd.S_far (p := ⟨gb463, 0, none⟩) (Kd.S_types HO_9.out BK463.out (by decide)) (fun _ hk => hk.2) (.int .i64 ((rd_T64 ((rd_T62 l0 a3).f3) x13_3).f0))) (fun _ hk => hk.2) (.int .i64 ((rd_T64 ((rd_T62 l0 a3).f3) x13_3).f1))) (fun _ hk => trivial)))⟩; have n1_ : Aside0 (w82.heap[gb446]? = some (.cells #[.int .i64 t444, .int .i64 t445] 28 (0, 0))) := ⟨(by rw [hw]; exact (bk_ BK446))⟩; have n2_ : Aside0 (w82.heap[gb452]? = some (.cells #[.int .i64 t450, .int .i64 t451] 28 (0, 0))) := ⟨(by rw [hw]; exact (bk_ BK452))⟩; have n3_ : Aside0 (w82.heap[gb463]? = some (.cells #[.int .i64 ((rd_T64 ((rd_T62 l0 a3).f3) x13_3).f0), .int .i64 ((rd_T64 ((rd_T62 l0 a3).f3) x13_3).f1)] 64 (0, 0))) := ⟨(by rw [hw]; exact (bk_ BK463))⟩; have n4_ : Aside0 (Below w.heap.size w w82) := ⟨(by rw [hw]; exact (bw_ HB))⟩; clear hw; clear HO_9; clear BK446; clear BK452; clear BK463; clear HB; have HO_9 := n0_; have BK446 := n1_; have BK452 := n2_; have BK463 := n3_; have HB := n4_; clear n0_ n1_ n2_ n3_ n4_; obtain ⟨hcz83_0, hcz83_1, hfz83_0, hfz83_1⟩ := cz2_ BK463; obtain ⟨Ao84, co84, eo84⟩ := Kd.S_slice HO_9.out; subst eo84; have p464 : 0 ≤ (a2 : Int) := of_decide_eq_true (by first | (with_reducible assumption) | assumption); have q464 : a2 < (t441.length : Int) := of_decide_eq_true (by first | (with_reducible assumption) | assumption); obtain ⟨ad464, A464_1, c464_1, e464, hx464_0, hx464_1, hl464_1, hi464_1⟩ := at_T68 (Kd.S_reads' HO_9.out).2.2 a2 p464 q464; cases e464; obtain ⟨ce464, hce464, hMe464, hcc464⟩ := Kd.S_get HO_9.out z68 a2 p464 (by first | exact q464 | exact of_decide_eq_true (by first | (with_reducible assumption) | assumption) | (have e_ := (Kd.S_reads' HO_9.out).1; omega)); obtain ⟨ve464_1, rfl, ge464_1⟩ := k68_openM hMe464; have hv464_1 := hcc464 1 _ rfl; rw [add_field _ _ 1 (by omega)] at hv464_1; replace hv464_1 := Option.some.inj (hv464_1.symm.trans hx464_1); rw [hv464_1] at ge464_1; have HL464_1 := Aside0.mk (show Kd.R (Kd.int .i64) 3 _ _ _ _ ((rd_T68 t441 a2).f1) from ge464_1); clear hv464_1 ge464_1; clear hcc464 hce464; have HR464_1 := Aside0.mk hi464_1; have HC464_1 := Aside0.mk hl464_1; clear hi464_1 hl464_1; replace p464 := eq_true p464; replace q464 := eq_true q464) | (go_at_call 32; (with_reducible refine (linkhouseref7_Has.calls k3 _ _ ((rd_T68 t441 a2).f1) ((rd_T64 ((rd_T62 l0 a3).f3) x13_3).f1) false _ ?side1 ?side2 A61.out).mono ?_); (case side1 => repeat (first | exact (by repeat (first | (with_reducible exact HR464_1.out) | (with_reducible refine Kd.C_alloc ?_ _) | (with_reducible refine Kd.C_drewN ?_ _) | (with_reducible refine Kd.C_drew ?_) | exact HR464_1.out)) | (with_reducible refine Kd.C_alloc ?_ _) | (with_reducible refine Kd.C_drewN ?_ _) | (with_reducible refine Kd.C_drew ?_))); (case side2 => exact HC464_1.out); rintro e w' ⟨rfl, ⟨nd, rfl⟩⟩; (try first | exact ⟨rfl, _, World.drewN_drewN _ _ _⟩ | exact ⟨rfl, _, Eq.trans (World.drewN_drewN _ _ _) (congrArg (World.drewN _) (Nat.add_assoc _ _ _))⟩))))
                  go_roundg k3
                  case measure => have := HJ6.out; have := HJ36.out; have := HK3.out; omega
                  case rel => exact ⟨(wrap64 (x13_3 + 1)), rs_, H', ⟨by have := HJ6.out; have := HJ36.out; have := HK3.out; omega⟩, ⟨by (with_reducible repeat (first | apply Kd.S_alloc | apply Kd.S_drewN | apply Kd.S_drew)); exact HO_9.out⟩, ⟨bk_ BK446⟩, ⟨bk_ BK452⟩, ⟨bw_ HB⟩⟩
                ·
                 rw [if_neg c60] at H
                 exact absurd H (by simp)
               ·
                rw [if_neg c59] at H
                exact absurd H (by simp)
             ·
              rw [if_neg c53] at H
              exact absurd H (by simp)
            ·
             rw [if_neg c52] at H
             have c52b0 : decide (x13_3 < (((rd_T62 l0 a3).f3).length : Int)) = false := decide_eq_false c52
             clear c52
             replace H := Option.bind_eq_some_iff.mp H
             obtain ⟨t467, A850, H⟩ := H
             replace H : (some t467) = some r := H
             have A85 := Aside0.mk A850
             clear A850
             obtain rfl := Option.some.inj H
             have p460 : 0 ≤ (a3 : Int) := of_decide_eq_true (by first | (with_reducible assumption) | assumption)
             have q460 : a3 < (l0.length : Int) := of_decide_eq_true (by first | (with_reducible assumption) | assumption)
             obtain ⟨ad460, A460_3, c460_3, e460, hx460_0, hx460_1, hx460_2, hx460_3, hl460_3, hi460_3⟩ := at_T62 HR0.out a3 p460 q460
             cases e460
             replace hx460_0 := (HB.out.cell (World.block_lt_of_cell? w _ hx460_0)).trans hx460_0
             replace hx460_1 := (HB.out.cell (World.block_lt_of_cell? w _ hx460_1)).trans hx460_1
             replace hx460_2 := (HB.out.cell (World.block_lt_of_cell? w _ hx460_2)).trans hx460_2
             replace hx460_3 := (HB.out.cell (World.block_lt_of_cell? w _ hx460_3)).trans hx460_3
             have HR460_3 := Aside0.mk hi460_3
             have HC460_3 := Aside0.mk hl460_3
             clear hi460_3 hl460_3
             replace p460 := eq_true p460
             replace q460 := eq_true q460
             go_wp2_with (first | (go_at_call 21; (with_reducible refine (linkhouselaw7_crossed.calls k3  t467 _ A85.out).mono ?_); rintro e w86 ⟨rfl, hb⟩; have n0_ := Aside0.mk (Kd.S_below (by (with_reducible repeat (first | apply Kd.S_alloc | apply Kd.S_drewN | apply Kd.S_drew)); exact HO_9.out) hb); have n1_ := Aside0.mk (blk_below (g := gb446) (o := .cells #[.int .i64 t444, .int .i64 t445] 28 (0, 0)) (bk_ BK446) hb); have n2_ := Aside0.mk (blk_below (g := gb452) (o := .cells #[.int .i64 t450, .int .i64 t451] 28 (0, 0)) (bk_ BK452) hb); have n3_ := Aside0.mk (below_step (bw_ HB) hb); clear HO_9; clear BK446; clear BK452; clear HB; have HO_9 := n0_; have BK446 := n1_; have BK452 := n2_; have HB := n3_; clear n0_ n1_ n2_ n3_; (try clear hb); (try clear hb2); (try clear hk); (try clear hi)))
             repeat (go_quiet (first | (go_at_call 21; (with_reducible refine (linkhouselaw7_crossed.calls k3  t467 _ A85.out).mono ?_); rintro e w86 ⟨rfl, hb⟩; have n0_ := Aside0.mk (Kd.S_below (by (with_reducible repeat (first | apply Kd.S_alloc | apply Kd.S_drewN | apply Kd.S_drew)); exact HO_9.out) hb); have n1_ := Aside0.mk (blk_below (g := gb446) (o := .cells #[.int .i64 t444, .int .i64 t445] 28 (0, 0)) (bk_ BK446) hb); have n2_ := Aside0.mk (blk_below (g := gb452) (o := .cells #[.int .i64 t450, .int .i64 t451] 28 (0, 0)) (bk_ BK452) hb); have n3_ := Aside0.mk (below_step (bw_ HB) hb); clear HO_9; clear BK446; clear BK452; clear HB; have HO_9 := n0_; have BK446 := n1_; have BK452 := n2_; have HB := n3_; clear n0_ n1_ n2_ n3_; (try clear hb); (try clear hb2); (try clear hk); (try clear hi))); try go_wp2_with (first | (go_at_call 21; (with_reducible refine (linkhouselaw7_crossed.calls k3  t467 _ A85.out).mono ?_); rintro e w86 ⟨rfl, hb⟩; have n0_ := Aside0.mk (Kd.S_below (by (with_reducible repeat (first | apply Kd.S_alloc | apply Kd.S_drewN | apply Kd.S_drew)); exact HO_9.out) hb); have n1_ := Aside0.mk (blk_below (g := gb446) (o := .cells #[.int .i64 t444, .int .i64 t445] 28 (0, 0)) (bk_ BK446) hb); have n2_ := Aside0.mk (blk_below (g := gb452) (o := .cells #[.int .i64 t450, .int .i64 t451] 28 (0, 0)) (bk_ BK452) hb); have n3_ := Aside0.mk (below_step (bw_ HB) hb); clear HO_9; clear BK446; clear BK452; clear HB; have HO_9 := n0_; have BK446 := n1_; have BK452 := n2_; have HB := n3_; clear n0_ n1_ n2_ n3_; (try clear hb); (try clear hb2); (try clear hk); (try clear hi))))
             go_ret
             exact ⟨id_, bw_ HB⟩
           ·
            rw [if_neg c51] at H
            exact absurd H (by simp)
          ·
           rw [if_neg c50] at H
           exact absurd H (by simp)
    ·
     rw [if_neg c36] at H
     have c36b0 : ((t447.length : Int) == (l0.length : Int)) = false := beq_eq_false_iff_ne.mpr c36
     have c36b1 : ((t447.length : Int) != (l0.length : Int)) = true := bne_iff_ne.mpr c36
     have c36b2 : (t447.length == l0.length) = false := by first | simpa using c36 | (simp at c36 ⊢; omega)
     obtain rfl := Option.some.inj H
     obtain ⟨Ao87, co87, eo87⟩ := Kd.R_slice HO_11.out
     subst eo87
     go_wp2
     repeat (go_quiet (fail); try go_wp2)
     go_ret
     exact ⟨id_, bw_ HB⟩

-- NOT PRINTED: function 10 (linkhouselaw7_FlowMoreEdgesReachMore)

end Go.Proofs.Ytaellapacoikaaa.PB
