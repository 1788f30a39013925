import Derived.Test.YtaellapacoikaaaU0
import Derived.Test.YtaellapacoikaaaUSBx0
import Derived.Test.YtaellapacoikaaaUSBx4
import Derived.Test.YtaellapacoikaaaUSBx7
import Derived.Test.YtaellapacoikaaaUSBx11
namespace Go.Proofs.Ytaellapacoikaaa.PB
open Go.RowKit Go.Proofs.YtaellapacoikaaaW.PrintWords Go.Proofs.YtaellapacoikaaaW.PrintLast Go.Proofs.YtaellapacoikaaaW.PrintMore
attribute [local go_sem] max2_int min2_int max_two min_two max_three min_three max_four min_four   -- for this text's walks alone
set_option linter.unusedVariables false
set_option linter.unusedSimpArgs false

/-! ### linkhouselaw7_FlowDominatorsSeparate: function 8 -/
set_option maxRecDepth 100000 in
mutual
def linkhouselaw7_FlowDominatorsSeparate.j0 : Nat → List (S62) → Int → Int → List Int → Bool → Option (Bool)
 | 0, _, _, _, _, _ => none
 | k + 1, x0, x1, x2, x7, x33 => if x33 = true then ((linkhouselaw7_crossed.f k).bind fun t405 => (some t405)) else (if (x7.length : Int) = (x0.length : Int) then (if 0 ≤ x2 then (if x2 < (x7.length : Int) then ((linkhouseref7_In.f (rd x7 x2) (-1) (wrap64 ((x0.length : Int) - 1))).bind fun t407 => (linkhouselaw7_FlowDominatorsSeparate.j1 k x0 x1 x2 x7 (!t407))) else (none)) else (none)) else (linkhouselaw7_FlowDominatorsSeparate.j1 k x0 x1 x2 x7 true))
def linkhouselaw7_FlowDominatorsSeparate.j1 : Nat → List (S62) → Int → Int → List Int → Bool → Option (Bool)
 | 0, _, _, _, _, _ => none
 | k + 1, x0, x1, x2, x7, x50 => if x50 = true then (some false) else ((flow_Reachable.f k x0 x1).bind fun bt408 => (if bt408.2.1 = 0 then (if (bt408.1.length : Int) = (x0.length : Int) then (if 0 ≤ x2 then (if x2 < (bt408.1.length : Int) then (if x2 < (x7.length : Int) then (linkhouselaw7_FlowDominatorsSeparate.j2 k x0 x1 x2 x7 ((rdOf false bt408.1 x2) != (decide ((rd x7 x2) ≥ 0)))) else (none)) else (none)) else (none)) else (linkhouselaw7_FlowDominatorsSeparate.j2 k x0 x1 x2 x7 true)) else (linkhouselaw7_FlowDominatorsSeparate.j2 k x0 x1 x2 x7 true)))
def linkhouselaw7_FlowDominatorsSeparate.j2 : Nat → List (S62) → Int → Int → List Int → Bool → Option (Bool)
 | 0, _, _, _, _, _ => none
 | k + 1, x0, x1, x2, x7, x78 => if x78 = true then (some false) else (if 0 ≤ x2 then (if x2 < (x7.length : Int) then (if (rd x7 x2) < 0 then (linkhouselaw7_FlowDominatorsSeparate.j3 k x0 x1 x2 x7 true) else (if (rd x7 x2) = x1 then (linkhouselaw7_FlowDominatorsSeparate.j3 k x0 x1 x2 x7 true) else (linkhouselaw7_FlowDominatorsSeparate.j3 k x0 x1 x2 x7 (x2 == x1)))) else (none)) else (none))
def linkhouselaw7_FlowDominatorsSeparate.j3 : Nat → List (S62) → Int → Int → List Int → Bool → Option (Bool)
 | 0, _, _, _, _, _ => none
 | k + 1, x0, x1, x2, x7, x96 => if x96 = true then ((linkhouselaw7_crossed.f k).bind fun t418 => (some t418)) else (linkhouselaw7_FlowDominatorsSeparate.l0 k x0 x1 x2 x7 ([] : List (S62)) 0)
def linkhouselaw7_FlowDominatorsSeparate.l0 : Nat → List (S62) → Int → Int → List Int → List (S62) → Int → Option (Bool)
 | 0, _, _, _, _, _, _ => none
 | k + 1, x0, x1, x2, x7, x11, x12 => if x12 < (x0.length : Int) then (linkhouselaw7_FlowDominatorsSeparate.l1 k x0 x1 x2 x7 x11 x12 0 0 0 0 ([] : List (S64))) else ((flow_Reachable.f k x11 x1).bind fun bt419 => (if bt419.2.1 = 0 then (if (bt419.1.length : Int) = (x0.length : Int) then (if 0 ≤ x2 then (if x2 < (bt419.1.length : Int) then (if rdOf false bt419.1 x2 = true then (some false) else ((linkhouselaw7_crossed.f k).bind fun t426 => (some t426))) else (none)) else (none)) else (some false)) else (some false)))
def linkhouselaw7_FlowDominatorsSeparate.l1 : Nat → List (S62) → Int → Int → List Int → List (S62) → Int → Int → Int → Int → Int → List (S64) → Option (Bool)
 | 0, _, _, _, _, _, _, _, _, _, _, _ => none
 | k + 1, x0, x1, x2, x7, x11, x12, x14, x428000, x428001, x428002, x428003 => if 0 ≤ x12 then (if x12 < (x0.length : Int) then (if x14 < (((rd_T62 x0 x12).f3).length : Int) then (if 0 ≤ x14 then (if 0 ≤ x2 then (if x2 < (x7.length : Int) then (if ((rd_T64 ((rd_T62 x0 x12).f3) x14).f1) = (rd x7 x2) then (linkhouselaw7_FlowDominatorsSeparate.l1 k x0 x1 x2 x7 x11 x12 (wrap64 (x14 + 1)) x428000 x428001 x428002 x428003) else (if x428003.length < 8796093022208 then (linkhouselaw7_FlowDominatorsSeparate.l1 k x0 x1 x2 x7 x11 x12 (wrap64 (x14 + 1)) x428000 x428001 x428002 (x428003 ++ [(⟨(rd_T64 ((rd_T62 x0 x12).f3) x14).f0, (rd_T64 ((rd_T62 x0 x12).f3) x14).f1⟩ : S64)])) else (none))) else (none)) else (none)) else (none)) else (if x11.length < 2932031007402 then (linkhouselaw7_FlowDominatorsSeparate.l0 k x0 x1 x2 x7 (x11 ++ [(⟨x428000, x428001, x428002, x428003⟩ : S62)]) (wrap64 (x12 + 1))) else (none))) else (none)) else (none)
end
set_option maxRecDepth 100000 in
def linkhouselaw7_FlowDominatorsSeparate.f (k : Nat) (l0 : List (S62)) (a1 : Int) (a2 : Int) : Option (Bool) := (flow_Dominators.f k l0 a1).bind fun bt398 => (if bt398.2.1 = 0 then ((linkhouseref7_In.f a2 0 (wrap64 ((l0.length : Int) - 1))).bind fun t404 => (linkhouselaw7_FlowDominatorsSeparate.j0 k l0 a1 a2 bt398.1 (!t404))) else (linkhouselaw7_FlowDominatorsSeparate.j0 k l0 a1 a2 bt398.1 true))
set_option maxRecDepth 100000 in
theorem linkhouselaw7_FlowDominatorsSeparate.mono_l : ∀ k, (∀ y0 y1 y2 y3 y4, LeO (linkhouselaw7_FlowDominatorsSeparate.j0 k y0 y1 y2 y3 y4) (linkhouselaw7_FlowDominatorsSeparate.j0 (k + 1) y0 y1 y2 y3 y4)) ∧ (∀ y0 y1 y2 y3 y4, LeO (linkhouselaw7_FlowDominatorsSeparate.j1 k y0 y1 y2 y3 y4) (linkhouselaw7_FlowDominatorsSeparate.j1 (k + 1) y0 y1 y2 y3 y4)) ∧ (∀ y0 y1 y2 y3 y4, LeO (linkhouselaw7_FlowDominatorsSeparate.j2 k y0 y1 y2 y3 y4) (linkhouselaw7_FlowDominatorsSeparate.j2 (k + 1) y0 y1 y2 y3 y4)) ∧ (∀ y0 y1 y2 y3 y4, LeO (linkhouselaw7_FlowDominatorsSeparate.j3 k y0 y1 y2 y3 y4) (linkhouselaw7_FlowDominatorsSeparate.j3 (k + 1) y0 y1 y2 y3 y4)) ∧ (∀ y0 y1 y2 y3 y4 y5, LeO (linkhouselaw7_FlowDominatorsSeparate.l0 k y0 y1 y2 y3 y4 y5) (linkhouselaw7_FlowDominatorsSeparate.l0 (k + 1) y0 y1 y2 y3 y4 y5)) ∧ (∀ y0 y1 y2 y3 y4 y5 y6 y7 y8 y9 y10, LeO (linkhouselaw7_FlowDominatorsSeparate.l1 k y0 y1 y2 y3 y4 y5 y6 y7 y8 y9 y10) (linkhouselaw7_FlowDominatorsSeparate.l1 (k + 1) y0 y1 y2 y3 y4 y5 y6 y7 y8 y9 y10))
 | 0 => ⟨fun _ _ _ _ _ r h => by simp [linkhouselaw7_FlowDominatorsSeparate.j0] at h, fun _ _ _ _ _ r h => by simp [linkhouselaw7_FlowDominatorsSeparate.j1] at h, fun _ _ _ _ _ r h => by simp [linkhouselaw7_FlowDominatorsSeparate.j2] at h, fun _ _ _ _ _ r h => by simp [linkhouselaw7_FlowDominatorsSeparate.j3] at h, fun _ _ _ _ _ _ r h => by simp [linkhouselaw7_FlowDominatorsSeparate.l0] at h, fun _ _ _ _ _ _ _ _ _ _ _ r h => by simp [linkhouselaw7_FlowDominatorsSeparate.l1] at h⟩
 | k + 1 => by
  obtain ⟨ih0, ih1, ih2, ih3, ih4, ih5⟩ := linkhouselaw7_FlowDominatorsSeparate.mono_l k
  refine ⟨?_, ?_, ?_, ?_, ?_, ?_⟩
  ·
   intro y0 y1 y2 y3 y4
   unfold linkhouselaw7_FlowDominatorsSeparate.j0
   repeat' first
   | (with_reducible exact ih0 _ _ _ _ _)
   | (with_reducible exact ih1 _ _ _ _ _)
   | (with_reducible exact ih2 _ _ _ _ _)
   | (with_reducible exact ih3 _ _ _ _ _)
   | (with_reducible exact ih4 _ _ _ _ _ _)
   | (with_reducible exact ih5 _ _ _ _ _ _ _ _ _ _ _)
   | (with_reducible exact flow_Dominators.mono _ _ _)
   | (with_reducible exact flow_Reachable.mono _ _ _)
   | (with_reducible exact linkhouselaw7_crossed.mono _)
   | (with_reducible exact LeO.refl _)
   | (with_reducible exact LeO.none _)
   | (with_reducible refine LeO.ite ?_ ?_)
   | (with_reducible refine LeO.bind ?_ (fun _ => ?_))
   | exact ih0 _ _ _ _ _
   | exact ih1 _ _ _ _ _
   | exact ih2 _ _ _ _ _
   | exact ih3 _ _ _ _ _
   | exact ih4 _ _ _ _ _ _
   | exact ih5 _ _ _ _ _ _ _ _ _ _ _
   | exact flow_Dominators.mono _ _ _
   | exact flow_Reachable.mono _ _ _
   | exact linkhouselaw7_crossed.mono _
   | exact LeO.none _
   | refine LeO.ite ?_ ?_
   | refine LeO.bind ?_ (fun _ => ?_)
  ·
   intro y0 y1 y2 y3 y4
   unfold linkhouselaw7_FlowDominatorsSeparate.j1
   repeat' first
   | (with_reducible exact ih0 _ _ _ _ _)
   | (with_reducible exact ih1 _ _ _ _ _)
   | (with_reducible exact ih2 _ _ _ _ _)
   | (with_reducible exact ih3 _ _ _ _ _)
   | (with_reducible exact ih4 _ _ _ _ _ _)
   | (with_reducible exact ih5 _ _ _ _ _ _ _ _ _ _ _)
   | (with_reducible exact flow_Dominators.mono _ _ _)
   | (with_reducible exact flow_Reachable.mono _ _ _)
   | (with_reducible exact linkhouselaw7_crossed.mono _)
   | (with_reducible exact LeO.refl _)
   | (with_reducible exact LeO.none _)
   | (with_reducible refine LeO.ite ?_ ?_)
   | (with_reducible refine LeO.bind ?_ (fun _ => ?_))
   | exact ih0 _ _ _ _ _
   | exact ih1 _ _ _ _ _
   | exact ih2 _ _ _ _ _
   | exact ih3 _ _ _ _ _
   | exact ih4 _ _ _ _ _ _
   | exact ih5 _ _ _ _ _ _ _ _ _ _ _
   | exact flow_Dominators.mono _ _ _
   | exact flow_Reachable.mono _ _ _
   | exact linkhouselaw7_crossed.mono _
   | exact LeO.none _
   | refine LeO.ite ?_ ?_
   | refine LeO.bind ?_ (fun _ => ?_)
  ·
   intro y0 y1 y2 y3 y4
   unfold linkhouselaw7_FlowDominatorsSeparate.j2
   repeat' first
   | (with_reducible exact ih0 _ _ _ _ _)
   | (with_reducible exact ih1 _ _ _ _ _)
   | (with_reducible exact ih2 _ _ _ _ _)
   | (with_reducible exact ih3 _ _ _ _ _)
   | (with_reducible exact ih4 _ _ _ _ _ _)
   | (with_reducible exact ih5 _ _ _ _ _ _ _ _ _ _ _)
   | (with_reducible exact flow_Dominators.mono _ _ _)
   | (with_reducible exact flow_Reachable.mono _ _ _)
   | (with_reducible exact linkhouselaw7_crossed.mono _)
   | (with_reducible exact LeO.refl _)
   | (with_reducible exact LeO.none _)
   | (with_reducible refine LeO.ite ?_ ?_)
   | (with_reducible refine LeO.bind ?_ (fun _ => ?_))
   | exact ih0 _ _ _ _ _
   | exact ih1 _ _ _ _ _
   | exact ih2 _ _ _ _ _
   | exact ih3 _ _ _ _ _
   | exact ih4 _ _ _ _ _ _
   | exact ih5 _ _ _ _ _ _ _ _ _ _ _
   | exact flow_Dominators.mono _ _ _
   | exact flow_Reachable.mono _ _ _
   | exact linkhouselaw7_crossed.mono _
   | exact LeO.none _
   | refine LeO.ite ?_ ?_
   | refine LeO.bind ?_ (fun _ => ?_)
  ·
   intro y0 y1 y2 y3 y4
   unfold linkhouselaw7_FlowDominatorsSeparate.j3
   repeat' first
   | (with_reducible exact ih0 _ _ _ _ _)
   | (with_reducible exact ih1 _ _ _ _ _)
   | (with_reducible exact ih2 _ _ _ _ _)
   | (with_reducible exact ih3 _ _ _ _ _)
   | (with_reducible exact ih4 _ _ _ _ _ _)
   | (with_reducible exact ih5 _ _ _ _ _ _ _ _ _ _ _)
   | (with_reducible exact flow_Dominators.mono _ _ _)
   | (with_reducible exact flow_Reachable.mono _ _ _)
   | (with_reducible exact linkhouselaw7_crossed.mono _)
   | (with_reducible exact LeO.refl _)
   | (with_reducible exact LeO.none _)
   | (with_reducible refine LeO.ite ?_ ?_)
   | (with_reducible refine LeO.bind ?_ (fun _ => ?_))
   | exact ih0 _ _ _ _ _
   | exact ih1 _ _ _ _ _
   | exact ih2 _ _ _ _ _
   | exact ih3 _ _ _ _ _
   | exact ih4 _ _ _ _ _ _
   | exact ih5 _ _ _ _ _ _ _ _ _ _ _
   | exact flow_Dominators.mono _ _ _
   | exact flow_Reachable.mono _ _ _
   | exact linkhouselaw7_crossed.mono _
   | exact LeO.none _
   | refine LeO.ite ?_ ?_
   | refine LeO.bind ?_ (fun _ => ?_)
  ·
   intro y0 y1 y2 y3 y4 y5
   unfold linkhouselaw7_FlowDominatorsSeparate.l0
   repeat' first
   | (with_reducible exact ih0 _ _ _ _ _)
   | (with_reducible exact ih1 _ _ _ _ _)
   | (with_reducible exact ih2 _ _ _ _ _)
   | (with_reducible exact ih3 _ _ _ _ _)
   | (with_reducible exact ih4 _ _ _ _ _ _)
   | (with_reducible exact ih5 _ _ _ _ _ _ _ _ _ _ _)
   | (with_reducible exact flow_Dominators.mono _ _ _)
   | (with_reducible exact flow_Reachable.mono _ _ _)
   | (with_reducible exact linkhouselaw7_crossed.mono _)
   | (with_reducible exact LeO.refl _)
   | (with_reducible exact LeO.none _)
   | (with_reducible refine LeO.ite ?_ ?_)
   | (with_reducible refine LeO.bind ?_ (fun _ => ?_))
   | exact ih0 _ _ _ _ _
   | exact ih1 _ _ _ _ _
   | exact ih2 _ _ _ _ _
   | exact ih3 _ _ _ _ _
   | exact ih4 _ _ _ _ _ _
   | exact ih5 _ _ _ _ _ _ _ _ _ _ _
   | exact flow_Dominators.mono _ _ _
   | exact flow_Reachable.mono _ _ _
   | exact linkhouselaw7_crossed.mono _
   | exact LeO.none _
   | refine LeO.ite ?_ ?_
   | refine LeO.bind ?_ (fun _ => ?_)
  ·
   intro y0 y1 y2 y3 y4 y5 y6 y7 y8 y9 y10
   unfold linkhouselaw7_FlowDominatorsSeparate.l1
   repeat' first
   | (with_reducible exact ih0 _ _ _ _ _)
   | (with_reducible exact ih1 _ _ _ _ _)
   | (with_reducible exact ih2 _ _ _ _ _)
   | (with_reducible exact ih3 _ _ _ _ _)
   | (with_reducible exact ih4 _ _ _ _ _ _)
   | (with_reducible exact ih5 _ _ _ _ _ _ _ _ _ _ _)
   | (with_reducible exact flow_Dominators.mono _ _ _)
   | (with_reducible exact flow_Reachable.mono _ _ _)
   | (with_reducible exact linkhouselaw7_crossed.mono _)
   | (with_reducible exact LeO.refl _)
   | (with_reducible exact LeO.none _)
   | (with_reducible refine LeO.ite ?_ ?_)
   | (with_reducible refine LeO.bind ?_ (fun _ => ?_))
   | exact ih0 _ _ _ _ _
   | exact ih1 _ _ _ _ _
   | exact ih2 _ _ _ _ _
   | exact ih3 _ _ _ _ _
   | exact ih4 _ _ _ _ _ _
   | exact ih5 _ _ _ _ _ _ _ _ _ _ _
   | exact flow_Dominators.mono _ _ _
   | exact flow_Reachable.mono _ _ _
   | exact linkhouselaw7_crossed.mono _
   | exact LeO.none _
   | refine LeO.ite ?_ ?_
   | refine LeO.bind ?_ (fun _ => ?_)
set_option maxRecDepth 100000 in
theorem linkhouselaw7_FlowDominatorsSeparate.mono : ∀ a0 a1 a2 k, LeO (linkhouselaw7_FlowDominatorsSeparate.f k a0 a1 a2) (linkhouselaw7_FlowDominatorsSeparate.f (k + 1) a0 a1 a2) := by
 intro a0 a1 a2 k
 obtain ⟨ih0, ih1, ih2, ih3, ih4, ih5⟩ := linkhouselaw7_FlowDominatorsSeparate.mono_l k
 unfold linkhouselaw7_FlowDominatorsSeparate.f
 repeat' first
   | (with_reducible exact ih0 _ _ _ _ _)
   | (with_reducible exact ih1 _ _ _ _ _)
   | (with_reducible exact ih2 _ _ _ _ _)
   | (with_reducible exact ih3 _ _ _ _ _)
   | (with_reducible exact ih4 _ _ _ _ _ _)
   | (with_reducible exact ih5 _ _ _ _ _ _ _ _ _ _ _)
   | (with_reducible exact flow_Dominators.mono _ _ _)
   | (with_reducible exact flow_Reachable.mono _ _ _)
   | (with_reducible exact linkhouselaw7_crossed.mono _)
   | (with_reducible exact LeO.refl _)
   | (with_reducible exact LeO.none _)
   | (with_reducible refine LeO.ite ?_ ?_)
   | (with_reducible refine LeO.bind ?_ (fun _ => ?_))
   | exact ih0 _ _ _ _ _
   | exact ih1 _ _ _ _ _
   | exact ih2 _ _ _ _ _
   | exact ih3 _ _ _ _ _
   | exact ih4 _ _ _ _ _ _
   | exact ih5 _ _ _ _ _ _ _ _ _ _ _
   | exact flow_Dominators.mono _ _ _
   | exact flow_Reachable.mono _ _ _
   | exact linkhouselaw7_crossed.mono _
   | exact LeO.none _
   | refine LeO.ite ?_ ?_
   | refine LeO.bind ?_ (fun _ => ?_)
def linkhouselaw7_FlowDominatorsSeparate.T7 : Bool × List (List Nat × List Nat) := (true, [([], []), ([0], [0]), ([1], [1]), ([2], [2]), ([3], [3]), ([4, 3], [3, 4]), ([3], [3]), ([6, 3], [3, 6]), ([5, 7, 3], [3, 5, 7]), ([3, 8], [3, 8]), ([9, 3], [9]), ([10], [10]), ([10], [10]), ([11, 12, 10], [10, 11, 12]), ([13, 10], [10, 13]), ([10], [10]), ([10], [10]), ([15, 16, 10], [10, 15, 16]), ([17, 10], [10, 17]), ([18, 10], [10, 18]), ([14, 19, 10], [10, 14, 19]), ([10, 20], [10, 20])])
def linkhouselaw7_FlowDominatorsSeparate.B7 : List Nat := [0, 1, 3, 7, 15, 31, 15, 79, 255, 511, 1023, 2047, 2047, 8191, 16383, 2047, 2047, 100351, 231423, 493567, 1048575, 2097151]
theorem linkhouselaw7_FlowDominatorsSeparate.tab7 : rtab .any (opsOf Try.f8 7) = linkhouselaw7_FlowDominatorsSeparate.T7 := by kernel_rfl
theorem linkhouselaw7_FlowDominatorsSeparate.bits7 : waitsOk linkhouselaw7_FlowDominatorsSeparate.T7.2 linkhouselaw7_FlowDominatorsSeparate.B7 = true := by kernel_rfl
def linkhouselaw7_FlowDominatorsSeparate.T19 : Bool × List (List Nat × List Nat) := (true, [([], []), ([], []), ([0, 1], [0, 1]), ([2], [2]), ([3], [3]), ([], []), ([4, 5], [4, 5]), ([6], [6]), ([7], [7]), ([], []), ([], []), ([9, 10], [9, 10]), ([11], [11]), ([8, 12], [8, 12])])
def linkhouselaw7_FlowDominatorsSeparate.B19 : List Nat := [0, 0, 3, 7, 15, 0, 63, 127, 255, 0, 0, 1536, 3584, 8191]
theorem linkhouselaw7_FlowDominatorsSeparate.tab19 : rtab .any (opsOf Try.f8 19) = linkhouselaw7_FlowDominatorsSeparate.T19 := by kernel_rfl
theorem linkhouselaw7_FlowDominatorsSeparate.bits19 : waitsOk linkhouselaw7_FlowDominatorsSeparate.T19.2 linkhouselaw7_FlowDominatorsSeparate.B19 = true := by kernel_rfl
def linkhouselaw7_FlowDominatorsSeparate.T20 : Bool × List (List Nat × List Nat) := (true, [([], []), ([0], [0]), ([], []), ([], []), ([2, 3], [2, 3]), ([4], [4]), ([5], [5]), ([], []), ([6, 7], [6, 7]), ([8], [8]), ([9], [9]), ([1, 10], [1, 10]), ([0, 1, 2, 3, 4, 5, 6, 7, 8, 9, 10, 11], []), ([12, 11, 11, 0, 1, 2, 3, 4, 5, 6, 7, 8, 9, 10, 11], [11, 12])])
def linkhouselaw7_FlowDominatorsSeparate.B20 : List Nat := [0, 1, 0, 0, 12, 28, 60, 0, 252, 508, 1020, 2047, 4095, 8191]
theorem linkhouselaw7_FlowDominatorsSeparate.tab20 : rtab .any (opsOf Try.f8 20) = linkhouselaw7_FlowDominatorsSeparate.T20 := by kernel_rfl
theorem linkhouselaw7_FlowDominatorsSeparate.bits20 : waitsOk linkhouselaw7_FlowDominatorsSeparate.T20.2 linkhouselaw7_FlowDominatorsSeparate.B20 = true := by kernel_rfl
set_option maxHeartbeats 8000000 in
set_option maxRecDepth 100000 in
theorem linkhouselaw7_FlowDominatorsSeparate.calls (k : Nat) (A0 : Option Addr) (c0 : Nat) (l0 : List (S62)) (a1 : Int) (a2 : Int) (r : Bool) (w : World) (hr0 : Kd.C k62 w A0 l0.length l0) (hc0 : l0.length ≤ c0) (h : linkhouselaw7_FlowDominatorsSeparate.f k l0 a1 a2 = some r) :
  Calls Try.prog 8 #[.slice A0 l0.length c0, .int .i64 a1, .int .i64 a2] w fun e w' => e = .returned (.bool r) ∧ Below w.heap.size w w' := by
 have hu28 := Try.underlying28
 have hu62 := Try.underlying62
 have hu64 := Try.underlying64
 have HR0 := Aside0.mk hr0
 have HC0 := Aside0.mk hc0
 clear hr0 hc0
 have HB := Aside0.mk (Below.refl w.heap.size w)
 have H : ((flow_Dominators.f k l0 a1).bind fun bt398 => (if bt398.2.1 = 0 then ((linkhouseref7_In.f a2 0 (wrap64 ((l0.length : Int) - 1))).bind fun t404 => (linkhouselaw7_FlowDominatorsSeparate.j0 k l0 a1 a2 bt398.1 (!t404))) else (linkhouselaw7_FlowDominatorsSeparate.j0 k l0 a1 a2 bt398.1 true))) = some r := h
 clear h
 replace H := Option.bind_eq_some_iff.mp H
 obtain ⟨⟨t398, t401, t402⟩, A40, H⟩ := H
 replace H : (if t401 = 0 then ((linkhouseref7_In.f a2 0 (wrap64 ((l0.length : Int) - 1))).bind fun t404 => (linkhouselaw7_FlowDominatorsSeparate.j0 k l0 a1 a2 t398 (!t404))) else (linkhouselaw7_FlowDominatorsSeparate.j0 k l0 a1 a2 t398 true)) = some r := H
 have A4 := Aside0.mk A40
 clear A40
 have HC5 := Aside0.mk H
 clear H
 go_enter Try.func8, Try.ntmps8
 go_upto_region 2 with (first | ((with_reducible refine gate_callee (f := 19) rfl ?_); refine goesL_ (some 20) rfl rfl Try.func19 (by kernel_rfl) rfl #[.slice A0 l0.length c0, .int .i64 a1] rfl ar_ ?_; (with_reducible refine (flow_Dominators.calls k _ _ l0 a1 t398 t401 t402 _ ?side1 ?side2 A4.out).mono ?_); (case side1 => repeat (first | exact HR0.out | (with_reducible refine Kd.C_alloc ?_ _) | (with_reducible refine Kd.C_drewN ?_ _) | (with_reducible refine Kd.C_drew ?_))); (case side2 => exact HC0.out); rintro e w6 ⟨v399, rfl, ho0, hb⟩; refine ⟨_, rfl, ?_⟩; have n0_ := Aside0.mk (Kd.R_lower ho0 (below_size (bw_ HB))); have n1_ := Aside0.mk (below_step (bw_ HB) hb); clear HB; have HO400 := n0_; have HB := n1_; clear n0_ n1_; (try clear hb); (try clear hb2); (try clear hk); (try clear hi); (try clear ho0)) | ((with_reducible refine gate_dst (N := 8) rfl ?_); (try (refine gate_guard (by rfl) ?_; dsimp only)); refine bx_ (N := 8) (cs := #[.int .i64 0, .int .i64 0]) (t := 28) ?_; intro gb403 hg w7 hbox hb; have n0_ := Aside0.mk (Kd.R_below (by (with_reducible repeat (first | apply Kd.R_alloc | apply Kd.R_drewN | apply Kd.R_drew)); exact HO400.out) hb); have n1_ := Aside0.mk (below_step (bw_ HB) hb); have n2_ := Aside0.mk (hbox); have n3_ := Aside0.mk ((by rw [hg]; exact (below_size (bw_ HB)) : w.heap.size ≤ gb403)); have n4_ := Aside0.mk ((by rw [hg]; exact (below_size (bw_ HB)) : w.heap.size ≤ gb403)); clear HO400; clear HB; have HO400 := n0_; have HB := n1_; have BK403 := n2_; have GW403 := n3_; have GE403 := n4_; clear n0_ n1_ n2_ n3_ n4_; clear hb hbox hg; obtain ⟨hcz8_0, hcz8_1, hfz8_0, hfz8_1⟩ := cz2_ BK403))
 (try simp only [Act.put, List.setIfInBounds_toArray, List.set_cons_zero, List.set_cons_succ])
 go_cut [33] (fun v33 wc => ∃ (kq : Nat) (x33_4 : Bool), v33 = .bool x33_4 ∧ Aside0 (linkhouselaw7_FlowDominatorsSeparate.j0 kq l0 a1 a2 t398 x33_4 = some r) ∧ Aside0 (kq ≤ k) ∧ Aside0 (Kd.R (Kd.int .i64) 3 wc w.heap.size (fun _ => True) v399 t398) ∧ Aside0 (wc.heap[gb403]? = some (.cells #[.int .i64 t401, .int .i64 t402] 28 (0, 0))) ∧ Aside0 (Below w.heap.size w wc))
 case first =>
  have H := HC5.out
  clear HC5
  by_cases c9 : t401 = 0
  ·
   rw [if_pos c9] at H
   have c9b0 : (t401 == 0) = true := beq_iff_eq.mpr c9
   have c9b1 : (t401 != 0) = false := bne_eq_false_iff_eq.mpr c9
   clear c9
   (first | rw [c9b0] | (simp only [i64_w, i32_w]; rw [c9b0]) | skip)
   replace H := Option.bind_eq_some_iff.mp H
   obtain ⟨t404, A100, H⟩ := H
   replace H : (linkhouselaw7_FlowDominatorsSeparate.j0 k l0 a1 a2 t398 (!t404)) = some r := H
   have A10 := Aside0.mk A100
   clear A100
   have H' := Aside0.mk H
   clear H
   obtain ⟨hcz11_0, hcz11_1, hfz11_0, hfz11_1⟩ := cz2_ BK403
   go_wp2_with (first | (go_at_call 16; (with_reducible refine (linkhouseref7_In.calls a2 0 (wrap64 ((l0.length : Int) - 1)) t404 _ A10.out).mono ?_); rintro e w' ⟨rfl, ⟨nd, rfl⟩⟩))
   go_meet
   case rel => exact ⟨_, (!t404), rs_, H', le_, ⟨by (with_reducible repeat (first | apply Kd.R_alloc | apply Kd.R_drewN | apply Kd.R_drew)); exact Kd.R_mono (Kd.R_far (p := ⟨gb403, 1, none⟩) (Kd.R_far (p := ⟨gb403, 0, none⟩) (Kd.R_types HO400.out BK403.out (by decide)) (fun _ hk => hk.2) (.int .i64 t401)) (fun _ hk => hk.2) (.int .i64 t402)) (fun _ hk => trivial)⟩, ⟨bk_ BK403⟩, ⟨bw_ HB⟩⟩
  ·
   rw [if_neg c9] at H
   have c9b0 : (t401 == 0) = false := beq_eq_false_iff_ne.mpr c9
   have c9b1 : (t401 != 0) = true := bne_iff_ne.mpr c9
   (first | rw [c9b0] | (simp only [i64_w, i32_w]; rw [c9b0]) | skip)
   have H' := Aside0.mk H
   clear H
   obtain ⟨hcz12_0, hcz12_1, hfz12_0, hfz12_1⟩ := cz2_ BK403
   go_wp2
   go_meet
   case rel => exact ⟨_, (true), rs_, H', le_, ⟨by (with_reducible repeat (first | apply Kd.R_alloc | apply Kd.R_drewN | apply Kd.R_drew)); exact Kd.R_mono (Kd.R_far (p := ⟨gb403, 1, none⟩) (Kd.R_far (p := ⟨gb403, 0, none⟩) (Kd.R_types HO400.out BK403.out (by decide)) (fun _ hk => hk.2) (.int .i64 t401)) (fun _ hk => hk.2) (.int .i64 t402)) (fun _ hk => trivial)⟩, ⟨bk_ BK403⟩, ⟨bw_ HB⟩⟩
 case rest =>
  clear HC5
  (try clear c1); (try clear p2); (try clear p6); (try clear c8); (try clear c9); (try clear c9b0); (try clear c9b1); (try clear hcz11_0); (try clear hcz11_1); (try clear hcz12_0); (try clear hcz12_1); (try clear hcz8_0); (try clear hcz8_1); (try clear hfz11_0); (try clear hfz11_1); (try clear hfz12_0); (try clear hfz12_1); (try clear hfz8_0); (try clear hfz8_1)
  obtain ⟨kq, x33_4, rfl, HA, HJ4, HO_7, BK403, HB⟩ := hcut
  cases kq with
  | zero => exact absurd HA.out (by simp [linkhouselaw7_FlowDominatorsSeparate.j0])
  | succ kj4 =>
   have H := HA.out
   clear HA
   simp only [linkhouselaw7_FlowDominatorsSeparate.j0] at H
   by_cases c13 : x33_4 = true
   ·
    subst c13
    have H1 : ((linkhouselaw7_crossed.f kj4).bind fun t405 => (some t405)) = some r := by rw [if_pos rfl] at H; exact H
    clear H
    have H := H1
    clear H1
    replace H := Option.bind_eq_some_iff.mp H
    obtain ⟨t405, A140, H⟩ := H
    replace H : (some t405) = some r := H
    have A14 := Aside0.mk A140
    clear A140
    obtain rfl := Option.some.inj H
    go_wp2_with (first | ((with_reducible refine gate_callee (f := 21) rfl ?_); refine goesL_ (some 34) rfl rfl Try.func21 (by kernel_rfl) rfl #[] rfl ar_ ?_; (with_reducible refine (linkhouselaw7_crossed.calls kj4  t405 _ A14.out).mono ?_); rintro e w15 ⟨rfl, hb⟩; refine ⟨_, rfl, ?_⟩; have n0_ := Aside0.mk (Kd.R_below (by (with_reducible repeat (first | apply Kd.R_alloc | apply Kd.R_drewN | apply Kd.R_drew)); exact HO_7.out) hb); have n1_ := Aside0.mk (blk_below (g := gb403) (o := .cells #[.int .i64 t401, .int .i64 t402] 28 (0, 0)) (bk_ BK403) hb); have n2_ := Aside0.mk (below_step (bw_ HB) hb); clear HO_7; clear BK403; clear HB; have HO_7 := n0_; have BK403 := n1_; have HB := n2_; clear n0_ n1_ n2_; (try clear hb); (try clear hb2); (try clear hk); (try clear hi)))
    go_ret
    exact ⟨id_, bw_ HB⟩
   ·
    replace c13 := Bool.eq_false_iff.mpr c13
    subst c13
    have H1 : (if (t398.length : Int) = (l0.length : Int) then (if 0 ≤ a2 then (if a2 < (t398.length : Int) then ((linkhouseref7_In.f (rd t398 a2) (-1) (wrap64 ((l0.length : Int) - 1))).bind fun t407 => (linkhouselaw7_FlowDominatorsSeparate.j1 kj4 l0 a1 a2 t398 (!t407))) else (none)) else (none)) else (linkhouselaw7_FlowDominatorsSeparate.j1 kj4 l0 a1 a2 t398 true)) = some r := by rw [if_neg (show ¬ (false = true) by decide)] at H; exact H
    clear H
    have H := H1
    clear H1
    have HC16 := Aside0.mk H
    clear H
    go_upto_region 4 with (fail)
    go_cut [50] (fun v50 wc => ∃ (kq : Nat) (x50_15 : Bool), v50 = .bool x50_15 ∧ Aside0 (linkhouselaw7_FlowDominatorsSeparate.j1 kq l0 a1 a2 t398 x50_15 = some r) ∧ Aside0 (kq ≤ kj4) ∧ Aside0 (Kd.R (Kd.int .i64) 3 wc w.heap.size (fun _ => True) v399 t398) ∧ Aside0 (wc.heap[gb403]? = some (.cells #[.int .i64 t401, .int .i64 t402] 28 (0, 0))) ∧ Aside0 (Below w.heap.size w wc))
    case first =>
     have H := HC16.out
     clear HC16
     by_cases c17 : (t398.length : Int) = (l0.length : Int)
     ·
      rw [if_pos c17] at H
      have c17b0 : ((t398.length : Int) == (l0.length : Int)) = true := beq_iff_eq.mpr c17
      have c17b1 : ((t398.length : Int) != (l0.length : Int)) = false := bne_eq_false_iff_eq.mpr c17
      have c17b2 : (t398.length == l0.length) = true := by first | simpa using c17 | (simp at c17 ⊢; omega)
      clear c17
      (first | rw [c17b0] | (simp only [i64_w, i32_w]; rw [c17b0]) | skip)
      by_cases c18 : 0 ≤ a2
      ·
       rw [if_pos c18] at H
       have c18b0 : decide (0 ≤ a2) = true := decide_eq_true c18
       clear c18
       by_cases c19 : a2 < (t398.length : Int)
       ·
        rw [if_pos c19] at H
        have c19b0 : decide (a2 < (t398.length : Int)) = true := decide_eq_true c19
        clear c19
        replace H := Option.bind_eq_some_iff.mp H
        obtain ⟨t407, A200, H⟩ := H
        replace H : (linkhouselaw7_FlowDominatorsSeparate.j1 kj4 l0 a1 a2 t398 (!t407)) = some r := H
        have A20 := Aside0.mk A200
        clear A200
        have H' := Aside0.mk H
        clear H
        obtain ⟨Ao21, co21, eo21⟩ := Kd.R_slice HO_7.out
        subst eo21
        have p406 : 0 ≤ (a2 : Int) := of_decide_eq_true (by first | (with_reducible assumption) | assumption)
        have q406 : a2 < (t398.length : Int) := of_decide_eq_true (by first | (with_reducible assumption) | assumption)
        obtain ⟨ad406, e406, hx406_0⟩ := Kd.at_int (Kd.R_reads' HO_7.out).2.2 a2 p406 q406
        cases e406
        replace p406 := eq_true p406
        replace q406 := eq_true q406
        go_wp2_with (first | (go_at_call 16; (with_reducible refine (linkhouseref7_In.calls (rd t398 a2) (-1) (wrap64 ((l0.length : Int) - 1)) t407 _ A20.out).mono ?_); rintro e w' ⟨rfl, ⟨nd, rfl⟩⟩))
        go_meet
        case rel => exact ⟨_, (!t407), rs_, H', ⟨by have := HJ4.out; first | omega | exact Nat.le_refl _⟩, ⟨by (with_reducible repeat (first | apply Kd.R_alloc | apply Kd.R_drewN | apply Kd.R_drew)); exact HO_7.out⟩, ⟨bk_ BK403⟩, ⟨bw_ HB⟩⟩
       ·
        rw [if_neg c19] at H
        exact absurd H (by simp)
      ·
       rw [if_neg c18] at H
       exact absurd H (by simp)
     ·
      rw [if_neg c17] at H
      have c17b0 : ((t398.length : Int) == (l0.length : Int)) = false := beq_eq_false_iff_ne.mpr c17
      have c17b1 : ((t398.length : Int) != (l0.length : Int)) = true := bne_iff_ne.mpr c17
      have c17b2 : (t398.length == l0.length) = false := by first | simpa using c17 | (simp at c17 ⊢; omega)
      (first | rw [c17b0] | (simp only [i64_w, i32_w]; rw [c17b0]) | skip)
      have H' := Aside0.mk H
      clear H
      obtain ⟨Ao22, co22, eo22⟩ := Kd.R_slice HO_7.out
      subst eo22
      go_wp2
      go_meet
      case rel => exact ⟨_, (true), rs_, H', ⟨by have := HJ4.out; first | omega | exact Nat.le_refl _⟩, ⟨by (with_reducible repeat (first | apply Kd.R_alloc | apply Kd.R_drewN | apply Kd.R_drew)); exact HO_7.out⟩, ⟨bk_ BK403⟩, ⟨bw_ HB⟩⟩
    case rest =>
     clear HC16
     (try clear c1); (try clear c2); (try clear p2); (try clear p4); (try clear q4); (try clear hx4); (try clear p6); (try clear c8); (try clear c9); (try clear c9b0); (try clear c9b1); (try clear c13); (try clear c17); (try clear c17b0); (try clear c17b1); (try clear c17b2); (try clear c18); (try clear c18b0); (try clear c19); (try clear c19b0); (try clear c21); (try clear hcz11_0); (try clear hcz11_1); (try clear hcz12_0); (try clear hcz12_1); (try clear hcz8_0); (try clear hcz8_1); (try clear hfz11_0); (try clear hfz11_1); (try clear hfz12_0); (try clear hfz12_1); (try clear hfz8_0); (try clear hfz8_1); (try clear hx406_0); (try clear p2); (try clear p406); (try clear p6); (try clear q406)
     obtain ⟨kq, x50_15, rfl, HA, HJ15, HO_7, BK403, HB⟩ := hcut
     cases kq with
     | zero => exact absurd HA.out (by simp [linkhouselaw7_FlowDominatorsSeparate.j1])
     | succ kj15 =>
      have H := HA.out
      clear HA
      simp only [linkhouselaw7_FlowDominatorsSeparate.j1] at H
      by_cases c23 : x50_15 = true
      ·
       subst c23
       have H1 : (some false) = some r := by rw [if_pos rfl] at H; exact H
       clear H
       have H := H1
       clear H1
       obtain rfl := Option.some.inj H
       go_wp2
       go_ret
       exact ⟨id_, bw_ HB⟩
      ·
       replace c23 := Bool.eq_false_iff.mpr c23
       subst c23
       have H1 : ((flow_Reachable.f kj15 l0 a1).bind fun bt408 => (if bt408.2.1 = 0 then (if (bt408.1.length : Int) = (l0.length : Int) then (if 0 ≤ a2 then (if a2 < (bt408.1.length : Int) then (if a2 < (t398.length : Int) then (linkhouselaw7_FlowDominatorsSeparate.j2 kj15 l0 a1 a2 t398 ((rdOf false bt408.1 a2) != (decide ((rd t398 a2) ≥ 0)))) else (none)) else (none)) else (none)) else (linkhouselaw7_FlowDominatorsSeparate.j2 kj15 l0 a1 a2 t398 true)) else (linkhouselaw7_FlowDominatorsSeparate.j2 kj15 l0 a1 a2 t398 true))) = some r := by rw [if_neg (show ¬ (false = true) by decide)] at H; exact H
       clear H
       have H := H1
       clear H1
       replace H := Option.bind_eq_some_iff.mp H
       obtain ⟨⟨t408, t411, t412⟩, A240, H⟩ := H
       replace H : (if t411 = 0 then (if (t408.length : Int) = (l0.length : Int) then (if 0 ≤ a2 then (if a2 < (t408.length : Int) then (if a2 < (t398.length : Int) then (linkhouselaw7_FlowDominatorsSeparate.j2 kj15 l0 a1 a2 t398 ((rdOf false t408 a2) != (decide ((rd t398 a2) ≥ 0)))) else (none)) else (none)) else (none)) else (linkhouselaw7_FlowDominatorsSeparate.j2 kj15 l0 a1 a2 t398 true)) else (linkhouselaw7_FlowDominatorsSeparate.j2 kj15 l0 a1 a2 t398 true)) = some r := H
       have A24 := Aside0.mk A240
       clear A240
       have HC25 := Aside0.mk H
       clear H
       go_upto_region 7 with (first | ((with_reducible refine gate_callee (f := 27) rfl ?_); refine goesL_ (some 54) rfl rfl Try.func27 (by kernel_rfl) rfl #[.slice A0 l0.length c0, .int .i64 a1] rfl ar_ ?_; (with_reducible refine (flow_Reachable.calls kj15 _ _ l0 a1 t408 t411 t412 _ ?side1 ?side2 A24.out).mono ?_); (case side1 => exact cb_ HR0 HB); (case side2 => exact HC0.out); rintro e w26 ⟨v409, rfl, ho0, hb⟩; refine ⟨_, rfl, ?_⟩; have n0_ := Aside0.mk (Kd.R_below (by (with_reducible repeat (first | apply Kd.R_alloc | apply Kd.R_drewN | apply Kd.R_drew)); exact HO_7.out) hb); have n1_ := Aside0.mk (Kd.R_lower ho0 (below_size (bw_ HB))); have n2_ := Aside0.mk (blk_below (g := gb403) (o := .cells #[.int .i64 t401, .int .i64 t402] 28 (0, 0)) (bk_ BK403) hb); have n3_ := Aside0.mk (below_step (bw_ HB) hb); clear HO_7; clear BK403; clear HB; have HO_7 := n0_; have HO410 := n1_; have BK403 := n2_; have HB := n3_; clear n0_ n1_ n2_ n3_; (try clear hb); (try clear hb2); (try clear hk); (try clear hi); (try clear ho0)) | ((with_reducible refine gate_dst (N := 10) rfl ?_); (try (refine gate_guard (by rfl) ?_; dsimp only)); refine bx_ (N := 10) (cs := #[.int .i64 0, .int .i64 0]) (t := 28) ?_; intro gb413 hg w27 hbox hb; have n0_ := Aside0.mk (Kd.R_below (by (with_reducible repeat (first | apply Kd.R_alloc | apply Kd.R_drewN | apply Kd.R_drew)); exact HO_7.out) hb); have n1_ := Aside0.mk (Kd.R_below (by (with_reducible repeat (first | apply Kd.R_alloc | apply Kd.R_drewN | apply Kd.R_drew)); exact HO410.out) hb); have n2_ := Aside0.mk (blk_below (g := gb403) (o := .cells #[.int .i64 t401, .int .i64 t402] 28 (0, 0)) (bk_ BK403) hb); have n3_ := Aside0.mk (below_step (bw_ HB) hb); have n4_ := Aside0.mk (hbox); have n5_ := Aside0.mk ((by rw [hg]; exact (below_size (bw_ HB)) : w.heap.size ≤ gb413)); have n6_ := Aside0.mk ((by rw [hg]; exact (below_size (bw_ HB)) : w.heap.size ≤ gb413)); have n7_ := Aside0.mk ((by rw [hg]; exact Nat.ne_of_lt (blk_lt (g := gb403) (o := .cells #[.int .i64 t401, .int .i64 t402] 28 (0, 0)) (bk_ BK403)) : gb403 ≠ gb413)); have n8_ := Aside0.mk ((by rw [hg]; exact Nat.ne_of_gt (blk_lt (g := gb403) (o := .cells #[.int .i64 t401, .int .i64 t402] 28 (0, 0)) (bk_ BK403)) : gb413 ≠ gb403)); clear HO_7; clear HO410; clear BK403; clear HB; have HO_7 := n0_; have HO410 := n1_; have BK403 := n2_; have HB := n3_; have BK413 := n4_; have GW413 := n5_; have GE413 := n6_; have NB403_413 := n7_; have NB413_403 := n8_; clear n0_ n1_ n2_ n3_ n4_ n5_ n6_ n7_ n8_; clear hb hbox hg; have hnb28 := NB413_403.out; have hnc28 := NB403_413.out; obtain ⟨hcz29_0, hcz29_1, hfz29_0, hfz29_1⟩ := cz2_ BK413))
       (try simp only [Act.put, List.setIfInBounds_toArray, List.set_cons_zero, List.set_cons_succ])
       go_cut [78] (fun v78 wc => ∃ (kq : Nat) (x78_24 : Bool), v78 = .bool x78_24 ∧ Aside0 (linkhouselaw7_FlowDominatorsSeparate.j2 kq l0 a1 a2 t398 x78_24 = some r) ∧ Aside0 (kq ≤ kj15) ∧ Aside0 (Kd.R (Kd.int .i64) 3 wc w.heap.size (fun _ => True) v399 t398) ∧ Aside0 (wc.heap[gb403]? = some (.cells #[.int .i64 t401, .int .i64 t402] 28 (0, 0))) ∧ Aside0 (wc.heap[gb413]? = some (.cells #[.int .i64 t411, .int .i64 t412] 28 (0, 0))) ∧ Aside0 (Below w.heap.size w wc))
       case first =>
        have H := HC25.out
        clear HC25
        by_cases c30 : t411 = 0
        ·
         rw [if_pos c30] at H
         have c30b0 : (t411 == 0) = true := beq_iff_eq.mpr c30
         have c30b1 : (t411 != 0) = false := bne_eq_false_iff_eq.mpr c30
         clear c30
         (first | rw [c30b0] | (simp only [i64_w, i32_w]; rw [c30b0]) | skip)
         by_cases c31 : (t408.length : Int) = (l0.length : Int)
         ·
          rw [if_pos c31] at H
          have c31b0 : ((t408.length : Int) == (l0.length : Int)) = true := beq_iff_eq.mpr c31
          have c31b1 : ((t408.length : Int) != (l0.length : Int)) = false := bne_eq_false_iff_eq.mpr c31
          have c31b2 : (t408.length == l0.length) = true := by first | simpa using c31 | (simp at c31 ⊢; omega)
          clear c31
          by_cases c32 : 0 ≤ a2
          ·
           rw [if_pos c32] at H
           have c32b0 : decide (0 ≤ a2) = true := decide_eq_true c32
           clear c32
           by_cases c33 : a2 < (t408.length : Int)
           ·
            rw [if_pos c33] at H
            have c33b0 : decide (a2 < (t408.length : Int)) = true := decide_eq_true c33
            clear c33
            by_cases c34 : a2 < (t398.length : Int)
            ·
             rw [if_pos c34] at H
             have c34b0 : decide (a2 < (t398.length : Int)) = true := decide_eq_true c34
             clear c34
             have H' := Aside0.mk H
             clear H
             try go_wp2
             have n0_ : Aside0 (Kd.R (Kd.int .i64) 3 ((w27.setCell ⟨gb413, 0, none⟩ (.int .i64 t411)).setCell ⟨gb413, 1, none⟩ (.int .i64 t412)) w.heap.size (fun _ => True) v399 t398) := ⟨by (with_reducible repeat (first | apply Kd.R_alloc | apply Kd.R_drewN | apply Kd.R_drew)); exact Kd.R_mono (Kd.R_far (p := ⟨gb413, 1, none⟩) (Kd.R_far (p := ⟨gb413, 0, none⟩) (Kd.R_types HO_7.out BK413.out (by decide)) (fun _ hk => hk.2) (.int .i64 t411)) (fun _ hk => hk.2) (.int .i64 t412)) (fun _ hk => trivial)⟩
             have n1_ : Aside0 (Kd.R Kd.bool 4 ((w27.setCell ⟨gb413, 0, none⟩ (.int .i64 t411)).setCell ⟨gb413, 1, none⟩ (.int .i64 t412)) w.heap.size (fun _ => True) v409 t408) := ⟨by (with_reducible repeat (first | apply Kd.R_alloc | apply Kd.R_drewN | apply Kd.R_drew)); exact Kd.R_mono (Kd.R_far (p := ⟨gb413, 1, none⟩) (Kd.R_far (p := ⟨gb413, 0, none⟩) (Kd.R_types HO410.out BK413.out (by decide)) (fun _ hk => hk.2) (.int .i64 t411)) (fun _ hk => hk.2) (.int .i64 t412)) (fun _ hk => trivial)⟩
             have n2_ : Aside0 (((w27.setCell ⟨gb413, 0, none⟩ (.int .i64 t411)).setCell ⟨gb413, 1, none⟩ (.int .i64 t412)).heap[gb403]? = some (.cells #[.int .i64 t401, .int .i64 t402] 28 (0, 0))) := ⟨bk_ BK403⟩
             have n3_ : Aside0 (((w27.setCell ⟨gb413, 0, none⟩ (.int .i64 t411)).setCell ⟨gb413, 1, none⟩ (.int .i64 t412)).heap[gb413]? = some (.cells #[.int .i64 t411, .int .i64 t412] 28 (0, 0))) := ⟨bk_ BK413⟩
             have n4_ : Aside0 (Below w.heap.size w ((w27.setCell ⟨gb413, 0, none⟩ (.int .i64 t411)).setCell ⟨gb413, 1, none⟩ (.int .i64 t412))) := ⟨bw_ HB⟩
             (try clear HO_7)
             (try clear HO410)
             (try clear BK403)
             (try clear BK413)
             (try clear HB)
             generalize ((w27.setCell ⟨gb413, 0, none⟩ (.int .i64 t411)).setCell ⟨gb413, 1, none⟩ (.int .i64 t412)) = w35 at n0_ n1_ n2_ n3_ n4_ ⊢
             have HO_7 := n0_
             have HO410 := n1_
             have BK403 := n2_
             have BK413 := n3_
             have HB := n4_
             clear n0_ n1_ n2_ n3_ n4_
             have n0_ := Aside0.mk (Kd.R_drew HO_7.out)
             have n1_ := Aside0.mk (Kd.R_drew HO410.out)
             have n2_ := Aside0.mk (blk_drew BK403.out)
             have n3_ := Aside0.mk (blk_drew BK413.out)
             have n4_ := Aside0.mk (below_drew1 HB.out)
             clear HO_7
             clear HO410
             clear BK403
             clear BK413
             clear HB
             have HO_7 := n0_
             have HO410 := n1_
             have BK403 := n2_
             have BK413 := n3_
             have HB := n4_
             clear n0_ n1_ n2_ n3_ n4_
             obtain ⟨Ao37, co37, eo37⟩ := Kd.R_slice HO410.out
             (first | subst eo37 | (injection eo37 with f1_ f2_ f3_; have f4_ := f1_.symm; have f5_ := f3_.symm; clear f1_ f2_ f3_; subst f4_; subst f5_))
             have p414 : 0 ≤ (a2 : Int) := of_decide_eq_true (by first | (with_reducible assumption) | assumption)
             have q414 : a2 < (t408.length : Int) := of_decide_eq_true (by first | (with_reducible assumption) | assumption)
             obtain ⟨ad414, e414, hx414_0⟩ := Kd.at_bool (Kd.R_reads' HO410.out).2.2 a2 p414 q414
             cases e414
             replace p414 := eq_true p414
             replace q414 := eq_true q414
             obtain ⟨Ao38, co38, eo38⟩ := Kd.R_slice HO_7.out
             (first | subst eo38 | (injection eo38 with f1_ f2_ f3_; have f4_ := f1_.symm; have f5_ := f3_.symm; clear f1_ f2_ f3_; subst f4_; subst f5_))
             have p415 : 0 ≤ (a2 : Int) := of_decide_eq_true (by first | (with_reducible assumption) | assumption)
             have q415 : a2 < (t398.length : Int) := of_decide_eq_true (by first | (with_reducible assumption) | assumption)
             obtain ⟨ad415, e415, hx415_0⟩ := Kd.at_int (Kd.R_reads' HO_7.out).2.2 a2 p415 q415
             cases e415
             replace p415 := eq_true p415
             replace q415 := eq_true q415
             refine start_ (n := 22) (S := fun w' => w'.cell? ⟨gb413, 0, none⟩ = some (.int .i64 t411) ∧ w'.cell? ⟨gb413, 1, none⟩ = some (.int .i64 t412) ∧ w'.cell? (ad414.add (a2).toNat) = some (.bool (rdOf false t408 a2)) ∧ w'.cell? (ad415.add (a2).toNat) = some (.int .i64 (rd t398 a2))) (ds := []) #[false, false, false, false, false, false, false, false, false, false, false, false, false, false, false, false, false, false, false, false, false, false] (by kernel_rfl) rfl rfl ⟨(blk_cell BK413.out 0).trans rfl, (blk_cell BK413.out 1).trans rfl, hx414_0, hx415_0⟩ (fun hHeld => ?_); refine with_tabW linkhouselaw7_FlowDominatorsSeparate.tab7 linkhouselaw7_FlowDominatorsSeparate.bits7 (fun HT_ HW_ => ?_)
             generalize w35.drew = w36 at HO_7 HO410 BK403 BK413 HB hx414_0 hx415_0 hHeld ⊢
             refine pure_ (i := 0) (N := some 57) (v := ?_) (a' := ?_) #[true, false, false, false, false, false, false, false, false, false, false, false, false, false, false, false, false, false, false, false, false, false] rfl rfl (any_of HT_.out (by kernel_rfl)) (fun _ _ _ h => h) (Or.inl ⟨by rfl, ?_⟩) ?_ ?_
             rotate_left
             ·
              intro w'
              go_simp
              with_reducible rfl
             rotate_left
             ·
              simp only [Act.put, List.setIfInBounds_toArray, List.set_cons_zero, List.set_cons_succ, i64_w, i32_w]
              rfl
             refine take_ (i := 1) (N := some 58) (v := ?_) (a' := ?_) #[true, true, false, false, false, false, false, false, false, false, false, false, false, false, false, false, false, false, false, false, false, false] rfl rfl (take_ofW HT_.out HW_.out (by kernel_rfl)) (fun _ _ _ h => h) (Or.inl ⟨by rfl, ?_⟩) hHeld ?_ ?_
             rotate_left
             ·
              rintro w' ⟨s0, s1, s2, s3⟩
              go_simp
              with_reducible rfl
             rotate_left
             ·
              simp only [Act.put, List.setIfInBounds_toArray, List.set_cons_zero, List.set_cons_succ, i64_w, i32_w]
              rfl
             refine pure_ (i := 2) (N := some 59) (v := ?_) (a' := ?_) #[true, true, true, false, false, false, false, false, false, false, false, false, false, false, false, false, false, false, false, false, false, false] rfl rfl (any_of HT_.out (by kernel_rfl)) (fun _ _ _ h => h) (Or.inl ⟨by rfl, ?_⟩) ?_ ?_
             rotate_left
             ·
              intro w'
              go_simp
              with_reducible rfl
             rotate_left
             ·
              simp only [Act.put, List.setIfInBounds_toArray, List.set_cons_zero, List.set_cons_succ, i64_w, i32_w]
              rfl
             refine pure_ (i := 3) (N := some 60) (v := ?_) (a' := ?_) #[true, true, true, true, false, false, false, false, false, false, false, false, false, false, false, false, false, false, false, false, false, false] rfl rfl (any_of HT_.out (by kernel_rfl)) (fun _ _ _ h => h) (Or.inl ⟨by rfl, ?_⟩) ?_ ?_
             rotate_left
             ·
              intro w'
              go_simp
              with_reducible rfl
             rotate_left
             ·
              simp only [Act.put, List.setIfInBounds_toArray, List.set_cons_zero, List.set_cons_succ, i64_w, i32_w]
              rfl
             refine pure_ (i := 4) (N := some 61) (v := ?_) (a' := ?_) #[true, true, true, true, true, false, false, false, false, false, false, false, false, false, false, false, false, false, false, false, false, false] rfl rfl (any_of HT_.out (by kernel_rfl)) (fun _ _ _ h => h) (Or.inl ⟨by rfl, ?_⟩) ?_ ?_
             rotate_left
             ·
              intro w'
              go_simp
              with_reducible rfl
             rotate_left
             ·
              simp only [Act.put, List.setIfInBounds_toArray, List.set_cons_zero, List.set_cons_succ, i64_w, i32_w]
              rfl
             refine pure_ (i := 5) (N := some 62) (v := ?_) (a' := ?_) #[true, true, true, true, true, true, false, false, false, false, false, false, false, false, false, false, false, false, false, false, false, false] rfl rfl (any_of HT_.out (by kernel_rfl)) (fun _ _ _ h => h) (Or.inl ⟨by rfl, ?_⟩) ?_ ?_
             rotate_left
             ·
              intro w'
              go_simp
              with_reducible rfl
             rotate_left
             ·
              simp only [Act.put, List.setIfInBounds_toArray, List.set_cons_zero, List.set_cons_succ, i64_w, i32_w]
              rfl
             refine pure_ (i := 6) (N := some 63) (v := ?_) (a' := ?_) #[true, true, true, true, true, true, true, false, false, false, false, false, false, false, false, false, false, false, false, false, false, false] rfl rfl (any_of HT_.out (by kernel_rfl)) (fun _ _ _ h => h) (Or.inl ⟨by rfl, ?_⟩) ?_ ?_
             rotate_left
             ·
              intro w'
              go_simp
              with_reducible rfl
             rotate_left
             ·
              simp only [Act.put, List.setIfInBounds_toArray, List.set_cons_zero, List.set_cons_succ, i64_w, i32_w]
              rfl
             refine pure_ (i := 7) (N := some 64) (v := ?_) (a' := ?_) #[true, true, true, true, true, true, true, true, false, false, false, false, false, false, false, false, false, false, false, false, false, false] rfl rfl (any_of HT_.out (by kernel_rfl)) (fun _ _ _ h => h) (Or.inl ⟨by rfl, ?_⟩) ?_ ?_
             rotate_left
             ·
              intro w'
              go_simp
              with_reducible rfl
             rotate_left
             ·
              simp only [Act.put, List.setIfInBounds_toArray, List.set_cons_zero, List.set_cons_succ, i64_w, i32_w]
              rfl
             refine pure_ (i := 8) (N := some 65) (v := ?_) (a' := ?_) #[true, true, true, true, true, true, true, true, true, false, false, false, false, false, false, false, false, false, false, false, false, false] rfl rfl (any_of HT_.out (by kernel_rfl)) (fun _ _ _ h => h) (Or.inl ⟨by rfl, ?_⟩) ?_ ?_
             rotate_left
             ·
              intro w'
              go_simp
              with_reducible rfl
             rotate_left
             ·
              simp only [Act.put, List.setIfInBounds_toArray, List.set_cons_zero, List.set_cons_succ, i64_w, i32_w]
              rfl
             refine pure_ (i := 9) (N := some 66) (v := ?_) (a' := ?_) #[true, true, true, true, true, true, true, true, true, true, false, false, false, false, false, false, false, false, false, false, false, false] rfl rfl (any_of HT_.out (by kernel_rfl)) (fun _ _ _ h => h) (Or.inl ⟨by rfl, ?_⟩) ?_ ?_
             rotate_left
             ·
              intro w'
              go_simp
              with_reducible rfl
             rotate_left
             ·
              simp only [Act.put, List.setIfInBounds_toArray, List.set_cons_zero, List.set_cons_succ, i64_w, i32_w]
              rfl
             refine pure_ (i := 10) (N := some 67) (v := ?_) (a' := ?_) #[true, true, true, true, true, true, true, true, true, true, true, false, false, false, false, false, false, false, false, false, false, false] rfl rfl (any_of HT_.out (by kernel_rfl)) (fun _ _ _ h => h) (Or.inl ⟨by rfl, ?_⟩) ?_ ?_
             rotate_left
             ·
              intro w'
              go_simp
              with_reducible rfl
             rotate_left
             ·
              simp only [Act.put, List.setIfInBounds_toArray, List.set_cons_zero, List.set_cons_succ, i64_w, i32_w]
              rfl
             refine pure_ (i := 11) (N := some 68) (v := ?_) (a' := ?_) #[true, true, true, true, true, true, true, true, true, true, true, true, false, false, false, false, false, false, false, false, false, false] rfl rfl (any_of HT_.out (by kernel_rfl)) (fun _ _ _ h => h) (Or.inl ⟨by rfl, ?_⟩) ?_ ?_
             rotate_left
             ·
              intro w'
              go_simp
              with_reducible rfl
             rotate_left
             ·
              simp only [Act.put, List.setIfInBounds_toArray, List.set_cons_zero, List.set_cons_succ, i64_w, i32_w]
              rfl
             refine pure_ (i := 12) (N := some 69) (v := ?_) (a' := ?_) #[true, true, true, true, true, true, true, true, true, true, true, true, true, false, false, false, false, false, false, false, false, false] rfl rfl (any_of HT_.out (by kernel_rfl)) (fun _ _ _ h => h) (Or.inl ⟨by rfl, ?_⟩) ?_ ?_
             rotate_left
             ·
              intro w'
              go_simp
              with_reducible rfl
             rotate_left
             ·
              simp only [Act.put, List.setIfInBounds_toArray, List.set_cons_zero, List.set_cons_succ, i64_w, i32_w]
              rfl
             refine pure_ (i := 13) (N := some 70) (v := ?_) (a' := ?_) #[true, true, true, true, true, true, true, true, true, true, true, true, true, true, false, false, false, false, false, false, false, false] rfl rfl (any_of HT_.out (by kernel_rfl)) (fun _ _ _ h => h) (Or.inl ⟨by rfl, ?_⟩) ?_ ?_
             rotate_left
             ·
              intro w'
              go_simp
              with_reducible rfl
             rotate_left
             ·
              simp only [Act.put, List.setIfInBounds_toArray, List.set_cons_zero, List.set_cons_succ, i64_w, i32_w]
              rfl
             refine pure_ (i := 15) (N := some 72) (v := ?_) (a' := ?_) #[true, true, true, true, true, true, true, true, true, true, true, true, true, true, false, true, false, false, false, false, false, false] rfl rfl (any_of HT_.out (by kernel_rfl)) (fun _ _ _ h => h) (Or.inl ⟨by rfl, ?_⟩) ?_ ?_
             rotate_left
             ·
              intro w'
              go_simp
              with_reducible rfl
             rotate_left
             ·
              simp only [Act.put, List.setIfInBounds_toArray, List.set_cons_zero, List.set_cons_succ, i64_w, i32_w]
              rfl
             refine pure_ (i := 16) (N := some 73) (v := ?_) (a' := ?_) #[true, true, true, true, true, true, true, true, true, true, true, true, true, true, false, true, true, false, false, false, false, false] rfl rfl (any_of HT_.out (by kernel_rfl)) (fun _ _ _ h => h) (Or.inl ⟨by rfl, ?_⟩) ?_ ?_
             rotate_left
             ·
              intro w'
              go_simp
              with_reducible rfl
             rotate_left
             ·
              simp only [Act.put, List.setIfInBounds_toArray, List.set_cons_zero, List.set_cons_succ, i64_w, i32_w]
              rfl
             refine pure_ (i := 17) (N := some 74) (v := ?_) (a' := ?_) #[true, true, true, true, true, true, true, true, true, true, true, true, true, true, false, true, true, true, false, false, false, false] rfl rfl (any_of HT_.out (by kernel_rfl)) (fun _ _ _ h => h) (Or.inl ⟨by rfl, ?_⟩) ?_ ?_
             rotate_left
             ·
              intro w'
              go_simp
              with_reducible rfl
             rotate_left
             ·
              simp only [Act.put, List.setIfInBounds_toArray, List.set_cons_zero, List.set_cons_succ, i64_w, i32_w]
              rfl
             refine take_ (i := 14) (N := some 71) (v := ?_) (a' := ?_) #[true, true, true, true, true, true, true, true, true, true, true, true, true, true, true, true, true, true, false, false, false, false] rfl rfl (take_ofW HT_.out HW_.out (by kernel_rfl)) (fun _ _ _ h => h) (Or.inl ⟨by rfl, ?_⟩) hHeld ?_ ?_
             rotate_left
             ·
              rintro w' ⟨s0, s1, s2, s3⟩
              go_simp
              with_reducible rfl
             rotate_left
             ·
              simp only [Act.put, List.setIfInBounds_toArray, List.set_cons_zero, List.set_cons_succ, i64_w, i32_w]
              rfl
             refine take_ (i := 18) (N := some 75) (v := ?_) (a' := ?_) #[true, true, true, true, true, true, true, true, true, true, true, true, true, true, true, true, true, true, true, false, false, false] rfl rfl (take_ofW HT_.out HW_.out (by kernel_rfl)) (fun _ _ _ h => h) (Or.inl ⟨by rfl, ?_⟩) hHeld ?_ ?_
             rotate_left
             ·
              rintro w' ⟨s0, s1, s2, s3⟩
              go_simp
              with_reducible rfl
             rotate_left
             ·
              simp only [Act.put, List.setIfInBounds_toArray, List.set_cons_zero, List.set_cons_succ, i64_w, i32_w]
              rfl
             refine pure_ (i := 19) (N := some 76) (v := ?_) (a' := ?_) #[true, true, true, true, true, true, true, true, true, true, true, true, true, true, true, true, true, true, true, true, false, false] rfl rfl (any_of HT_.out (by kernel_rfl)) (fun _ _ _ h => h) (Or.inl ⟨by rfl, ?_⟩) ?_ ?_
             rotate_left
             ·
              intro w'
              go_simp
              with_reducible rfl
             rotate_left
             ·
              simp only [Act.put, List.setIfInBounds_toArray, List.set_cons_zero, List.set_cons_succ, i64_w, i32_w]
              rfl
             refine pure_ (i := 20) (N := some 77) (v := ?_) (a' := ?_) #[true, true, true, true, true, true, true, true, true, true, true, true, true, true, true, true, true, true, true, true, true, false] rfl rfl (any_of HT_.out (by kernel_rfl)) (fun _ _ _ h => h) (Or.inl ⟨by rfl, ?_⟩) ?_ ?_
             rotate_left
             ·
              intro w'
              go_simp
              with_reducible rfl
             rotate_left
             ·
              simp only [Act.put, List.setIfInBounds_toArray, List.set_cons_zero, List.set_cons_succ, i64_w, i32_w]
              rfl
             refine pure_ (i := 21) (N := some 78) (v := ?_) (a' := ?_) #[true, true, true, true, true, true, true, true, true, true, true, true, true, true, true, true, true, true, true, true, true, true] rfl rfl (any_of HT_.out (by kernel_rfl)) (fun _ _ _ h => h) (Or.inl ⟨by rfl, ?_⟩) ?_ ?_
             rotate_left
             ·
              intro w'
              go_simp
              with_reducible rfl
             rotate_left
             ·
              simp only [Act.put, List.setIfInBounds_toArray, List.set_cons_zero, List.set_cons_succ, i64_w, i32_w]
              rfl
             refine done_ (done_of HT_.out (by kernel_rfl)) ?_
             try go_wp2
             go_meet
             case rel => exact ⟨_, (((rdOf false t408 a2) != (decide ((rd t398 a2) ≥ 0)))), rs_, H', ⟨by have := HJ4.out; have := HJ15.out; first | omega | exact Nat.le_refl _⟩, ⟨by (with_reducible repeat (first | apply Kd.R_alloc | apply Kd.R_drewN | apply Kd.R_drew)); exact HO_7.out⟩, ⟨bk_ BK403⟩, ⟨bk_ BK413⟩, ⟨bw_ HB⟩⟩
            ·
             rw [if_neg c34] at H
             exact absurd H (by simp)
           ·
            rw [if_neg c33] at H
            exact absurd H (by simp)
          ·
           rw [if_neg c32] at H
           exact absurd H (by simp)
         ·
          rw [if_neg c31] at H
          have c31b0 : ((t408.length : Int) == (l0.length : Int)) = false := beq_eq_false_iff_ne.mpr c31
          have c31b1 : ((t408.length : Int) != (l0.length : Int)) = true := bne_iff_ne.mpr c31
          have c31b2 : (t408.length == l0.length) = false := by first | simpa using c31 | (simp at c31 ⊢; omega)
          have H' := Aside0.mk H
          clear H
          try go_wp2
          have n0_ : Aside0 (Kd.R (Kd.int .i64) 3 ((w27.setCell ⟨gb413, 0, none⟩ (.int .i64 t411)).setCell ⟨gb413, 1, none⟩ (.int .i64 t412)) w.heap.size (fun _ => True) v399 t398) := ⟨by (with_reducible repeat (first | apply Kd.R_alloc | apply Kd.R_drewN | apply Kd.R_drew)); exact Kd.R_mono (Kd.R_far (p := ⟨gb413, 1, none⟩) (Kd.R_far (p := ⟨gb413, 0, none⟩) (Kd.R_types HO_7.out BK413.out (by decide)) (fun _ hk => hk.2) (.int .i64 t411)) (fun _ hk => hk.2) (.int .i64 t412)) (fun _ hk => trivial)⟩
          have n1_ : Aside0 (Kd.R Kd.bool 4 ((w27.setCell ⟨gb413, 0, none⟩ (.int .i64 t411)).setCell ⟨gb413, 1, none⟩ (.int .i64 t412)) w.heap.size (fun _ => True) v409 t408) := ⟨by (with_reducible repeat (first | apply Kd.R_alloc | apply Kd.R_drewN | apply Kd.R_drew)); exact Kd.R_mono (Kd.R_far (p := ⟨gb413, 1, none⟩) (Kd.R_far (p := ⟨gb413, 0, none⟩) (Kd.R_types HO410.out BK413.out (by decide)) (fun _ hk => hk.2) (.int .i64 t411)) (fun _ hk => hk.2) (.int .i64 t412)) (fun _ hk => trivial)⟩
          have n2_ : Aside0 (((w27.setCell ⟨gb413, 0, none⟩ (.int .i64 t411)).setCell ⟨gb413, 1, none⟩ (.int .i64 t412)).heap[gb403]? = some (.cells #[.int .i64 t401, .int .i64 t402] 28 (0, 0))) := ⟨bk_ BK403⟩
          have n3_ : Aside0 (((w27.setCell ⟨gb413, 0, none⟩ (.int .i64 t411)).setCell ⟨gb413, 1, none⟩ (.int .i64 t412)).heap[gb413]? = some (.cells #[.int .i64 t411, .int .i64 t412] 28 (0, 0))) := ⟨bk_ BK413⟩
          have n4_ : Aside0 (Below w.heap.size w ((w27.setCell ⟨gb413, 0, none⟩ (.int .i64 t411)).setCell ⟨gb413, 1, none⟩ (.int .i64 t412))) := ⟨bw_ HB⟩
          (try clear HO_7)
          (try clear HO410)
          (try clear BK403)
          (try clear BK413)
          (try clear HB)
          generalize ((w27.setCell ⟨gb413, 0, none⟩ (.int .i64 t411)).setCell ⟨gb413, 1, none⟩ (.int .i64 t412)) = w39 at n0_ n1_ n2_ n3_ n4_ ⊢
          have HO_7 := n0_
          have HO410 := n1_
          have BK403 := n2_
          have BK413 := n3_
          have HB := n4_
          clear n0_ n1_ n2_ n3_ n4_
          have n0_ := Aside0.mk (Kd.R_drew HO_7.out)
          have n1_ := Aside0.mk (Kd.R_drew HO410.out)
          have n2_ := Aside0.mk (blk_drew BK403.out)
          have n3_ := Aside0.mk (blk_drew BK413.out)
          have n4_ := Aside0.mk (below_drew1 HB.out)
          clear HO_7
          clear HO410
          clear BK403
          clear BK413
          clear HB
          have HO_7 := n0_
          have HO410 := n1_
          have BK403 := n2_
          have BK413 := n3_
          have HB := n4_
          clear n0_ n1_ n2_ n3_ n4_
          obtain ⟨Ao41, co41, eo41⟩ := Kd.R_slice HO410.out
          (first | subst eo41 | (injection eo41 with f1_ f2_ f3_; have f4_ := f1_.symm; have f5_ := f3_.symm; clear f1_ f2_ f3_; subst f4_; subst f5_))
          refine start_ (n := 22) (S := fun w' => w'.cell? ⟨gb413, 0, none⟩ = some (.int .i64 t411) ∧ w'.cell? ⟨gb413, 1, none⟩ = some (.int .i64 t412)) (ds := []) #[false, false, false, false, false, false, false, false, false, false, false, false, false, false, false, false, false, false, false, false, false, false] (by kernel_rfl) rfl rfl ⟨(blk_cell BK413.out 0).trans rfl, (blk_cell BK413.out 1).trans rfl⟩ (fun hHeld => ?_); refine with_tabW linkhouselaw7_FlowDominatorsSeparate.tab7 linkhouselaw7_FlowDominatorsSeparate.bits7 (fun HT_ HW_ => ?_)
          generalize w39.drew = w40 at HO_7 HO410 BK403 BK413 HB hHeld ⊢
          refine pure_ (i := 0) (N := some 57) (v := ?_) (a' := ?_) #[true, false, false, false, false, false, false, false, false, false, false, false, false, false, false, false, false, false, false, false, false, false] rfl rfl (any_of HT_.out (by kernel_rfl)) (fun _ _ _ h => h) (Or.inl ⟨by rfl, ?_⟩) ?_ ?_
          rotate_left
          ·
           intro w'
           go_simp
           with_reducible rfl
          rotate_left
          ·
           simp only [Act.put, List.setIfInBounds_toArray, List.set_cons_zero, List.set_cons_succ, i64_w, i32_w]
           rfl
          refine take_ (i := 1) (N := some 58) (v := ?_) (a' := ?_) #[true, true, false, false, false, false, false, false, false, false, false, false, false, false, false, false, false, false, false, false, false, false] rfl rfl (take_ofW HT_.out HW_.out (by kernel_rfl)) (fun _ _ _ h => h) (Or.inl ⟨by rfl, ?_⟩) hHeld ?_ ?_
          rotate_left
          ·
           rintro w' ⟨s0, s1⟩
           go_simp
           with_reducible rfl
          rotate_left
          ·
           simp only [Act.put, List.setIfInBounds_toArray, List.set_cons_zero, List.set_cons_succ, i64_w, i32_w]
           rfl
          refine pure_ (i := 2) (N := some 59) (v := ?_) (a' := ?_) #[true, true, true, false, false, false, false, false, false, false, false, false, false, false, false, false, false, false, false, false, false, false] rfl rfl (any_of HT_.out (by kernel_rfl)) (fun _ _ _ h => h) (Or.inl ⟨by rfl, ?_⟩) ?_ ?_
          rotate_left
          ·
           intro w'
           go_simp
           with_reducible rfl
          rotate_left
          ·
           simp only [Act.put, List.setIfInBounds_toArray, List.set_cons_zero, List.set_cons_succ, i64_w, i32_w]
           rfl
          refine pure_ (i := 3) (N := some 60) (v := ?_) (a' := ?_) #[true, true, true, true, false, false, false, false, false, false, false, false, false, false, false, false, false, false, false, false, false, false] rfl rfl (any_of HT_.out (by kernel_rfl)) (fun _ _ _ h => h) (Or.inl ⟨by rfl, ?_⟩) ?_ ?_
          rotate_left
          ·
           intro w'
           go_simp
           with_reducible rfl
          rotate_left
          ·
           simp only [Act.put, List.setIfInBounds_toArray, List.set_cons_zero, List.set_cons_succ, i64_w, i32_w]
           rfl
          refine pure_ (i := 4) (N := some 61) (v := ?_) (a' := ?_) #[true, true, true, true, true, false, false, false, false, false, false, false, false, false, false, false, false, false, false, false, false, false] rfl rfl (any_of HT_.out (by kernel_rfl)) (fun _ _ _ h => h) (Or.inl ⟨by rfl, ?_⟩) ?_ ?_
          rotate_left
          ·
           intro w'
           go_simp
           with_reducible rfl
          rotate_left
          ·
           simp only [Act.put, List.setIfInBounds_toArray, List.set_cons_zero, List.set_cons_succ, i64_w, i32_w]
           rfl
          refine pure_ (i := 5) (N := some 62) (v := ?_) (a' := ?_) #[true, true, true, true, true, true, false, false, false, false, false, false, false, false, false, false, false, false, false, false, false, false] rfl rfl (any_of HT_.out (by kernel_rfl)) (fun _ _ _ h => h) (Or.inl ⟨by rfl, ?_⟩) ?_ ?_
          rotate_left
          ·
           intro w'
           go_simp
           with_reducible rfl
          rotate_left
          ·
           simp only [Act.put, List.setIfInBounds_toArray, List.set_cons_zero, List.set_cons_succ, i64_w, i32_w]
           rfl
          refine pure_ (i := 6) (N := some 63) (v := ?_) (a' := ?_) #[true, true, true, true, true, true, true, false, false, false, false, false, false, false, false, false, false, false, false, false, false, false] rfl rfl (any_of HT_.out (by kernel_rfl)) (fun _ _ _ h => h) (Or.inl ⟨by rfl, ?_⟩) ?_ ?_
          rotate_left
          ·
           intro w'
           go_simp
           with_reducible rfl
          rotate_left
          ·
           simp only [Act.put, List.setIfInBounds_toArray, List.set_cons_zero, List.set_cons_succ, i64_w, i32_w]
           rfl
          refine pure_ (i := 7) (N := some 64) (v := ?_) (a' := ?_) #[true, true, true, true, true, true, true, true, false, false, false, false, false, false, false, false, false, false, false, false, false, false] rfl rfl (any_of HT_.out (by kernel_rfl)) (fun _ _ _ h => h) (Or.inl ⟨by rfl, ?_⟩) ?_ ?_
          rotate_left
          ·
           intro w'
           go_simp
           with_reducible rfl
          rotate_left
          ·
           simp only [Act.put, List.setIfInBounds_toArray, List.set_cons_zero, List.set_cons_succ, i64_w, i32_w]
           rfl
          refine pure_ (i := 8) (N := some 65) (v := ?_) (a' := ?_) #[true, true, true, true, true, true, true, true, true, false, false, false, false, false, false, false, false, false, false, false, false, false] rfl rfl (any_of HT_.out (by kernel_rfl)) (fun _ _ _ h => h) (Or.inl ⟨by rfl, ?_⟩) ?_ ?_
          rotate_left
          ·
           intro w'
           go_simp
           with_reducible rfl
          rotate_left
          ·
           simp only [Act.put, List.setIfInBounds_toArray, List.set_cons_zero, List.set_cons_succ, i64_w, i32_w]
           rfl
          refine pure_ (i := 9) (N := some 66) (v := ?_) (a' := ?_) #[true, true, true, true, true, true, true, true, true, true, false, false, false, false, false, false, false, false, false, false, false, false] rfl rfl (any_of HT_.out (by kernel_rfl)) (fun _ _ _ h => h) (Or.inl ⟨by rfl, ?_⟩) ?_ ?_
          rotate_left
          ·
           intro w'
           go_simp
           with_reducible rfl
          rotate_left
          ·
           simp only [Act.put, List.setIfInBounds_toArray, List.set_cons_zero, List.set_cons_succ, i64_w, i32_w]
           rfl
          refine pure_ (i := 10) (N := some 67) (v := ?_) (a' := ?_) #[true, true, true, true, true, true, true, true, true, true, true, false, false, false, false, false, false, false, false, false, false, false] rfl rfl (any_of HT_.out (by kernel_rfl)) (fun _ _ _ h => h) (Or.inl ⟨by rfl, ?_⟩) ?_ ?_
          rotate_left
          ·
           intro w'
           go_simp
           with_reducible rfl
          rotate_left
          ·
           simp only [Act.put, List.setIfInBounds_toArray, List.set_cons_zero, List.set_cons_succ, i64_w, i32_w]
           rfl
          refine pure_ (i := 11) (N := some 68) (v := undef) (a' := ?_) #[true, true, true, true, true, true, true, true, true, true, true, true, false, false, false, false, false, false, false, false, false, false] rfl rfl (any_of HT_.out (by kernel_rfl)) (fun _ _ _ h => h) (Or.inr ⟨by rfl, rfl⟩) ?_ ?_
          rotate_left
          ·
           simp only [Act.put, List.setIfInBounds_toArray, List.set_cons_zero, List.set_cons_succ, i64_w, i32_w]
           rfl
          refine pure_ (i := 12) (N := some 69) (v := undef) (a' := ?_) #[true, true, true, true, true, true, true, true, true, true, true, true, true, false, false, false, false, false, false, false, false, false] rfl rfl (any_of HT_.out (by kernel_rfl)) (fun _ _ _ h => h) (Or.inr ⟨by rfl, rfl⟩) ?_ ?_
          rotate_left
          ·
           simp only [Act.put, List.setIfInBounds_toArray, List.set_cons_zero, List.set_cons_succ, i64_w, i32_w]
           rfl
          refine pure_ (i := 13) (N := some 70) (v := undef) (a' := ?_) #[true, true, true, true, true, true, true, true, true, true, true, true, true, true, false, false, false, false, false, false, false, false] rfl rfl (any_of HT_.out (by kernel_rfl)) (fun _ _ _ h => h) (Or.inr ⟨by rfl, rfl⟩) ?_ ?_
          rotate_left
          ·
           simp only [Act.put, List.setIfInBounds_toArray, List.set_cons_zero, List.set_cons_succ, i64_w, i32_w]
           rfl
          refine pure_ (i := 14) (N := some 71) (v := undef) (a' := ?_) #[true, true, true, true, true, true, true, true, true, true, true, true, true, true, true, false, false, false, false, false, false, false] rfl rfl (any_of HT_.out (by kernel_rfl)) (fun _ _ _ h => h) (Or.inr ⟨by rfl, rfl⟩) ?_ ?_
          rotate_left
          ·
           simp only [Act.put, List.setIfInBounds_toArray, List.set_cons_zero, List.set_cons_succ, i64_w, i32_w]
           rfl
          refine pure_ (i := 15) (N := some 72) (v := undef) (a' := ?_) #[true, true, true, true, true, true, true, true, true, true, true, true, true, true, true, true, false, false, false, false, false, false] rfl rfl (any_of HT_.out (by kernel_rfl)) (fun _ _ _ h => h) (Or.inr ⟨by rfl, rfl⟩) ?_ ?_
          rotate_left
          ·
           simp only [Act.put, List.setIfInBounds_toArray, List.set_cons_zero, List.set_cons_succ, i64_w, i32_w]
           rfl
          refine pure_ (i := 16) (N := some 73) (v := undef) (a' := ?_) #[true, true, true, true, true, true, true, true, true, true, true, true, true, true, true, true, true, false, false, false, false, false] rfl rfl (any_of HT_.out (by kernel_rfl)) (fun _ _ _ h => h) (Or.inr ⟨by rfl, rfl⟩) ?_ ?_
          rotate_left
          ·
           simp only [Act.put, List.setIfInBounds_toArray, List.set_cons_zero, List.set_cons_succ, i64_w, i32_w]
           rfl
          refine pure_ (i := 17) (N := some 74) (v := undef) (a' := ?_) #[true, true, true, true, true, true, true, true, true, true, true, true, true, true, true, true, true, true, false, false, false, false] rfl rfl (any_of HT_.out (by kernel_rfl)) (fun _ _ _ h => h) (Or.inr ⟨by rfl, rfl⟩) ?_ ?_
          rotate_left
          ·
           simp only [Act.put, List.setIfInBounds_toArray, List.set_cons_zero, List.set_cons_succ, i64_w, i32_w]
           rfl
          refine pure_ (i := 18) (N := some 75) (v := undef) (a' := ?_) #[true, true, true, true, true, true, true, true, true, true, true, true, true, true, true, true, true, true, true, false, false, false] rfl rfl (any_of HT_.out (by kernel_rfl)) (fun _ _ _ h => h) (Or.inr ⟨by rfl, rfl⟩) ?_ ?_
          rotate_left
          ·
           simp only [Act.put, List.setIfInBounds_toArray, List.set_cons_zero, List.set_cons_succ, i64_w, i32_w]
           rfl
          refine pure_ (i := 19) (N := some 76) (v := undef) (a' := ?_) #[true, true, true, true, true, true, true, true, true, true, true, true, true, true, true, true, true, true, true, true, false, false] rfl rfl (any_of HT_.out (by kernel_rfl)) (fun _ _ _ h => h) (Or.inr ⟨by rfl, rfl⟩) ?_ ?_
          rotate_left
          ·
           simp only [Act.put, List.setIfInBounds_toArray, List.set_cons_zero, List.set_cons_succ, i64_w, i32_w]
           rfl
          refine pure_ (i := 20) (N := some 77) (v := undef) (a' := ?_) #[true, true, true, true, true, true, true, true, true, true, true, true, true, true, true, true, true, true, true, true, true, false] rfl rfl (any_of HT_.out (by kernel_rfl)) (fun _ _ _ h => h) (Or.inr ⟨by rfl, rfl⟩) ?_ ?_
          rotate_left
          ·
           simp only [Act.put, List.setIfInBounds_toArray, List.set_cons_zero, List.set_cons_succ, i64_w, i32_w]
           rfl
          refine pure_ (i := 21) (N := some 78) (v := ?_) (a' := ?_) #[true, true, true, true, true, true, true, true, true, true, true, true, true, true, true, true, true, true, true, true, true, true] rfl rfl (any_of HT_.out (by kernel_rfl)) (fun _ _ _ h => h) (Or.inl ⟨by rfl, ?_⟩) ?_ ?_
          rotate_left
          ·
           intro w'
           go_simp
           with_reducible rfl
          rotate_left
          ·
           simp only [Act.put, List.setIfInBounds_toArray, List.set_cons_zero, List.set_cons_succ, i64_w, i32_w]
           rfl
          refine done_ (done_of HT_.out (by kernel_rfl)) ?_
          try go_wp2
          go_meet
          case rel => exact ⟨_, (true), rs_, H', ⟨by have := HJ4.out; have := HJ15.out; first | omega | exact Nat.le_refl _⟩, ⟨by (with_reducible repeat (first | apply Kd.R_alloc | apply Kd.R_drewN | apply Kd.R_drew)); exact HO_7.out⟩, ⟨bk_ BK403⟩, ⟨bk_ BK413⟩, ⟨bw_ HB⟩⟩
        ·
         rw [if_neg c30] at H
         have c30b0 : (t411 == 0) = false := beq_eq_false_iff_ne.mpr c30
         have c30b1 : (t411 != 0) = true := bne_iff_ne.mpr c30
         (first | rw [c30b0] | (simp only [i64_w, i32_w]; rw [c30b0]) | skip)
         have H' := Aside0.mk H
         clear H
         try go_wp2
         have n0_ : Aside0 (Kd.R (Kd.int .i64) 3 ((w27.setCell ⟨gb413, 0, none⟩ (.int .i64 t411)).setCell ⟨gb413, 1, none⟩ (.int .i64 t412)) w.heap.size (fun _ => True) v399 t398) := ⟨by (with_reducible repeat (first | apply Kd.R_alloc | apply Kd.R_drewN | apply Kd.R_drew)); exact Kd.R_mono (Kd.R_far (p := ⟨gb413, 1, none⟩) (Kd.R_far (p := ⟨gb413, 0, none⟩) (Kd.R_types HO_7.out BK413.out (by decide)) (fun _ hk => hk.2) (.int .i64 t411)) (fun _ hk => hk.2) (.int .i64 t412)) (fun _ hk => trivial)⟩
         have n1_ : Aside0 (Kd.R Kd.bool 4 ((w27.setCell ⟨gb413, 0, none⟩ (.int .i64 t411)).setCell ⟨gb413, 1, none⟩ (.int .i64 t412)) w.heap.size (fun _ => True) v409 t408) := ⟨by (with_reducible repeat (first | apply Kd.R_alloc | apply Kd.R_drewN | apply Kd.R_drew)); exact Kd.R_mono (Kd.R_far (p := ⟨gb413, 1, none⟩) (Kd.R_far (p := ⟨gb413, 0, none⟩) (Kd.R_types HO410.out BK413.out (by decide)) (fun _ hk => hk.2) (.int .i64 t411)) (fun _ hk => hk.2) (.int .i64 t412)) (fun _ hk => trivial)⟩
         have n2_ : Aside0 (((w27.setCell ⟨gb413, 0, none⟩ (.int .i64 t411)).setCell ⟨gb413, 1, none⟩ (.int .i64 t412)).heap[gb403]? = some (.cells #[.int .i64 t401, .int .i64 t402] 28 (0, 0))) := ⟨bk_ BK403⟩
         have n3_ : Aside0 (((w27.setCell ⟨gb413, 0, none⟩ (.int .i64 t411)).setCell ⟨gb413, 1, none⟩ (.int .i64 t412)).heap[gb413]? = some (.cells #[.int .i64 t411, .int .i64 t412] 28 (0, 0))) := ⟨bk_ BK413⟩
         have n4_ : Aside0 (Below w.heap.size w ((w27.setCell ⟨gb413, 0, none⟩ (.int .i64 t411)).setCell ⟨gb413, 1, none⟩ (.int .i64 t412))) := ⟨bw_ HB⟩
         (try clear HO_7)
         (try clear HO410)
         (try clear BK403)
         (try clear BK413)
         (try clear HB)
         generalize ((w27.setCell ⟨gb413, 0, none⟩ (.int .i64 t411)).setCell ⟨gb413, 1, none⟩ (.int .i64 t412)) = w42 at n0_ n1_ n2_ n3_ n4_ ⊢
         have HO_7 := n0_
         have HO410 := n1_
         have BK403 := n2_
         have BK413 := n3_
         have HB := n4_
         clear n0_ n1_ n2_ n3_ n4_
         have n0_ := Aside0.mk (Kd.R_drew HO_7.out)
         have n1_ := Aside0.mk (Kd.R_drew HO410.out)
         have n2_ := Aside0.mk (blk_drew BK403.out)
         have n3_ := Aside0.mk (blk_drew BK413.out)
         have n4_ := Aside0.mk (below_drew1 HB.out)
         clear HO_7
         clear HO410
         clear BK403
         clear BK413
         clear HB
         have HO_7 := n0_
         have HO410 := n1_
         have BK403 := n2_
         have BK413 := n3_
         have HB := n4_
         clear n0_ n1_ n2_ n3_ n4_
         refine start_ (n := 22) (S := fun w' => w'.cell? ⟨gb413, 0, none⟩ = some (.int .i64 t411) ∧ w'.cell? ⟨gb413, 1, none⟩ = some (.int .i64 t412)) (ds := []) #[false, false, false, false, false, false, false, false, false, false, false, false, false, false, false, false, false, false, false, false, false, false] (by kernel_rfl) rfl rfl ⟨(blk_cell BK413.out 0).trans rfl, (blk_cell BK413.out 1).trans rfl⟩ (fun hHeld => ?_); refine with_tabW linkhouselaw7_FlowDominatorsSeparate.tab7 linkhouselaw7_FlowDominatorsSeparate.bits7 (fun HT_ HW_ => ?_)
         generalize w42.drew = w43 at HO_7 HO410 BK403 BK413 HB hHeld ⊢
         refine pure_ (i := 0) (N := some 57) (v := ?_) (a' := ?_) #[true, false, false, false, false, false, false, false, false, false, false, false, false, false, false, false, false, false, false, false, false, false] rfl rfl (any_of HT_.out (by kernel_rfl)) (fun _ _ _ h => h) (Or.inl ⟨by rfl, ?_⟩) ?_ ?_
         rotate_left
         ·
          intro w'
          go_simp
          with_reducible rfl
         rotate_left
         ·
          simp only [Act.put, List.setIfInBounds_toArray, List.set_cons_zero, List.set_cons_succ, i64_w, i32_w]
          rfl
         refine take_ (i := 1) (N := some 58) (v := ?_) (a' := ?_) #[true, true, false, false, false, false, false, false, false, false, false, false, false, false, false, false, false, false, false, false, false, false] rfl rfl (take_ofW HT_.out HW_.out (by kernel_rfl)) (fun _ _ _ h => h) (Or.inl ⟨by rfl, ?_⟩) hHeld ?_ ?_
         rotate_left
         ·
          rintro w' ⟨s0, s1⟩
          go_simp
          with_reducible rfl
         rotate_left
         ·
          simp only [Act.put, List.setIfInBounds_toArray, List.set_cons_zero, List.set_cons_succ, i64_w, i32_w]
          rfl
         refine pure_ (i := 2) (N := some 59) (v := ?_) (a' := ?_) #[true, true, true, false, false, false, false, false, false, false, false, false, false, false, false, false, false, false, false, false, false, false] rfl rfl (any_of HT_.out (by kernel_rfl)) (fun _ _ _ h => h) (Or.inl ⟨by rfl, ?_⟩) ?_ ?_
         rotate_left
         ·
          intro w'
          go_simp
          with_reducible rfl
         rotate_left
         ·
          simp only [Act.put, List.setIfInBounds_toArray, List.set_cons_zero, List.set_cons_succ, i64_w, i32_w]
          rfl
         refine pure_ (i := 3) (N := some 60) (v := ?_) (a' := ?_) #[true, true, true, true, false, false, false, false, false, false, false, false, false, false, false, false, false, false, false, false, false, false] rfl rfl (any_of HT_.out (by kernel_rfl)) (fun _ _ _ h => h) (Or.inl ⟨by rfl, ?_⟩) ?_ ?_
         rotate_left
         ·
          intro w'
          go_simp
          with_reducible rfl
         rotate_left
         ·
          simp only [Act.put, List.setIfInBounds_toArray, List.set_cons_zero, List.set_cons_succ, i64_w, i32_w]
          rfl
         refine pure_ (i := 4) (N := some 61) (v := undef) (a' := ?_) #[true, true, true, true, true, false, false, false, false, false, false, false, false, false, false, false, false, false, false, false, false, false] rfl rfl (any_of HT_.out (by kernel_rfl)) (fun _ _ _ h => h) (Or.inr ⟨by rfl, rfl⟩) ?_ ?_
         rotate_left
         ·
          simp only [Act.put, List.setIfInBounds_toArray, List.set_cons_zero, List.set_cons_succ, i64_w, i32_w]
          rfl
         refine pure_ (i := 5) (N := some 62) (v := undef) (a' := ?_) #[true, true, true, true, true, true, false, false, false, false, false, false, false, false, false, false, false, false, false, false, false, false] rfl rfl (any_of HT_.out (by kernel_rfl)) (fun _ _ _ h => h) (Or.inr ⟨by rfl, rfl⟩) ?_ ?_
         rotate_left
         ·
          simp only [Act.put, List.setIfInBounds_toArray, List.set_cons_zero, List.set_cons_succ, i64_w, i32_w]
          rfl
         refine pure_ (i := 6) (N := some 63) (v := undef) (a' := ?_) #[true, true, true, true, true, true, true, false, false, false, false, false, false, false, false, false, false, false, false, false, false, false] rfl rfl (any_of HT_.out (by kernel_rfl)) (fun _ _ _ h => h) (Or.inr ⟨by rfl, rfl⟩) ?_ ?_
         rotate_left
         ·
          simp only [Act.put, List.setIfInBounds_toArray, List.set_cons_zero, List.set_cons_succ, i64_w, i32_w]
          rfl
         refine pure_ (i := 7) (N := some 64) (v := undef) (a' := ?_) #[true, true, true, true, true, true, true, true, false, false, false, false, false, false, false, false, false, false, false, false, false, false] rfl rfl (any_of HT_.out (by kernel_rfl)) (fun _ _ _ h => h) (Or.inr ⟨by rfl, rfl⟩) ?_ ?_
         rotate_left
         ·
          simp only [Act.put, List.setIfInBounds_toArray, List.set_cons_zero, List.set_cons_succ, i64_w, i32_w]
          rfl
         refine pure_ (i := 8) (N := some 65) (v := undef) (a' := ?_) #[true, true, true, true, true, true, true, true, true, false, false, false, false, false, false, false, false, false, false, false, false, false] rfl rfl (any_of HT_.out (by kernel_rfl)) (fun _ _ _ h => h) (Or.inr ⟨by rfl, rfl⟩) ?_ ?_
         rotate_left
         ·
          simp only [Act.put, List.setIfInBounds_toArray, List.set_cons_zero, List.set_cons_succ, i64_w, i32_w]
          rfl
         refine pure_ (i := 9) (N := some 66) (v := ?_) (a' := ?_) #[true, true, true, true, true, true, true, true, true, true, false, false, false, false, false, false, false, false, false, false, false, false] rfl rfl (any_of HT_.out (by kernel_rfl)) (fun _ _ _ h => h) (Or.inl ⟨by rfl, ?_⟩) ?_ ?_
         rotate_left
         ·
          intro w'
          go_simp
          with_reducible rfl
         rotate_left
         ·
          simp only [Act.put, List.setIfInBounds_toArray, List.set_cons_zero, List.set_cons_succ, i64_w, i32_w]
          rfl
         refine pure_ (i := 10) (N := some 67) (v := ?_) (a' := ?_) #[true, true, true, true, true, true, true, true, true, true, true, false, false, false, false, false, false, false, false, false, false, false] rfl rfl (any_of HT_.out (by kernel_rfl)) (fun _ _ _ h => h) (Or.inl ⟨by rfl, ?_⟩) ?_ ?_
         rotate_left
         ·
          intro w'
          go_simp
          with_reducible rfl
         rotate_left
         ·
          simp only [Act.put, List.setIfInBounds_toArray, List.set_cons_zero, List.set_cons_succ, i64_w, i32_w]
          rfl
         refine pure_ (i := 11) (N := some 68) (v := undef) (a' := ?_) #[true, true, true, true, true, true, true, true, true, true, true, true, false, false, false, false, false, false, false, false, false, false] rfl rfl (any_of HT_.out (by kernel_rfl)) (fun _ _ _ h => h) (Or.inr ⟨by rfl, rfl⟩) ?_ ?_
         rotate_left
         ·
          simp only [Act.put, List.setIfInBounds_toArray, List.set_cons_zero, List.set_cons_succ, i64_w, i32_w]
          rfl
         refine pure_ (i := 12) (N := some 69) (v := undef) (a' := ?_) #[true, true, true, true, true, true, true, true, true, true, true, true, true, false, false, false, false, false, false, false, false, false] rfl rfl (any_of HT_.out (by kernel_rfl)) (fun _ _ _ h => h) (Or.inr ⟨by rfl, rfl⟩) ?_ ?_
         rotate_left
         ·
          simp only [Act.put, List.setIfInBounds_toArray, List.set_cons_zero, List.set_cons_succ, i64_w, i32_w]
          rfl
         refine pure_ (i := 13) (N := some 70) (v := undef) (a' := ?_) #[true, true, true, true, true, true, true, true, true, true, true, true, true, true, false, false, false, false, false, false, false, false] rfl rfl (any_of HT_.out (by kernel_rfl)) (fun _ _ _ h => h) (Or.inr ⟨by rfl, rfl⟩) ?_ ?_
         rotate_left
         ·
          simp only [Act.put, List.setIfInBounds_toArray, List.set_cons_zero, List.set_cons_succ, i64_w, i32_w]
          rfl
         refine pure_ (i := 14) (N := some 71) (v := undef) (a' := ?_) #[true, true, true, true, true, true, true, true, true, true, true, true, true, true, true, false, false, false, false, false, false, false] rfl rfl (any_of HT_.out (by kernel_rfl)) (fun _ _ _ h => h) (Or.inr ⟨by rfl, rfl⟩) ?_ ?_
         rotate_left
         ·
          simp only [Act.put, List.setIfInBounds_toArray, List.set_cons_zero, List.set_cons_succ, i64_w, i32_w]
          rfl
         refine pure_ (i := 15) (N := some 72) (v := undef) (a' := ?_) #[true, true, true, true, true, true, true, true, true, true, true, true, true, true, true, true, false, false, false, false, false, false] rfl rfl (any_of HT_.out (by kernel_rfl)) (fun _ _ _ h => h) (Or.inr ⟨by rfl, rfl⟩) ?_ ?_
         rotate_left
         ·
          simp only [Act.put, List.setIfInBounds_toArray, List.set_cons_zero, List.set_cons_succ, i64_w, i32_w]
          rfl
         refine pure_ (i := 16) (N := some 73) (v := undef) (a' := ?_) #[true, true, true, true, true, true, true, true, true, true, true, true, true, true, true, true, true, false, false, false, false, false] rfl rfl (any_of HT_.out (by kernel_rfl)) (fun _ _ _ h => h) (Or.inr ⟨by rfl, rfl⟩) ?_ ?_
         rotate_left
         ·
          simp only [Act.put, List.setIfInBounds_toArray, List.set_cons_zero, List.set_cons_succ, i64_w, i32_w]
          rfl
         refine pure_ (i := 17) (N := some 74) (v := undef) (a' := ?_) #[true, true, true, true, true, true, true, true, true, true, true, true, true, true, true, true, true, true, false, false, false, false] rfl rfl (any_of HT_.out (by kernel_rfl)) (fun _ _ _ h => h) (Or.inr ⟨by rfl, rfl⟩) ?_ ?_
         rotate_left
         ·
          simp only [Act.put, List.setIfInBounds_toArray, List.set_cons_zero, List.set_cons_succ, i64_w, i32_w]
          rfl
         refine pure_ (i := 18) (N := some 75) (v := undef) (a' := ?_) #[true, true, true, true, true, true, true, true, true, true, true, true, true, true, true, true, true, true, true, false, false, false] rfl rfl (any_of HT_.out (by kernel_rfl)) (fun _ _ _ h => h) (Or.inr ⟨by rfl, rfl⟩) ?_ ?_
         rotate_left
         ·
          simp only [Act.put, List.setIfInBounds_toArray, List.set_cons_zero, List.set_cons_succ, i64_w, i32_w]
          rfl
         refine pure_ (i := 19) (N := some 76) (v := undef) (a' := ?_) #[true, true, true, true, true, true, true, true, true, true, true, true, true, true, true, true, true, true, true, true, false, false] rfl rfl (any_of HT_.out (by kernel_rfl)) (fun _ _ _ h => h) (Or.inr ⟨by rfl, rfl⟩) ?_ ?_
         rotate_left
         ·
          simp only [Act.put, List.setIfInBounds_toArray, List.set_cons_zero, List.set_cons_succ, i64_w, i32_w]
          rfl
         refine pure_ (i := 20) (N := some 77) (v := undef) (a' := ?_) #[true, true, true, true, true, true, true, true, true, true, true, true, true, true, true, true, true, true, true, true, true, false] rfl rfl (any_of HT_.out (by kernel_rfl)) (fun _ _ _ h => h) (Or.inr ⟨by rfl, rfl⟩) ?_ ?_
         rotate_left
         ·
          simp only [Act.put, List.setIfInBounds_toArray, List.set_cons_zero, List.set_cons_succ, i64_w, i32_w]
          rfl
         refine pure_ (i := 21) (N := some 78) (v := ?_) (a' := ?_) #[true, true, true, true, true, true, true, true, true, true, true, true, true, true, true, true, true, true, true, true, true, true] rfl rfl (any_of HT_.out (by kernel_rfl)) (fun _ _ _ h => h) (Or.inl ⟨by rfl, ?_⟩) ?_ ?_
         rotate_left
         ·
          intro w'
          go_simp
          with_reducible rfl
         rotate_left
         ·
          simp only [Act.put, List.setIfInBounds_toArray, List.set_cons_zero, List.set_cons_succ, i64_w, i32_w]
          rfl
         refine done_ (done_of HT_.out (by kernel_rfl)) ?_
         try go_wp2
         go_meet
         case rel => exact ⟨_, (true), rs_, H', ⟨by have := HJ4.out; have := HJ15.out; first | omega | exact Nat.le_refl _⟩, ⟨by (with_reducible repeat (first | apply Kd.R_alloc | apply Kd.R_drewN | apply Kd.R_drew)); exact HO_7.out⟩, ⟨bk_ BK403⟩, ⟨bk_ BK413⟩, ⟨bw_ HB⟩⟩
       case rest =>
        clear HC25
        (try clear p2); (try clear c3); (try clear p4); (try clear q4); (try clear hx4); (try clear c30); (try clear c30b0); (try clear c30b1); (try clear c31); (try clear c31b0); (try clear c31b1); (try clear c31b2); (try clear c32); (try clear c32b0); (try clear c33); (try clear c33b0); (try clear c34); (try clear c34b0); (try clear p41); (try clear q41); (try clear hx41); (try clear hx414_0); (try clear hx415_0); (try clear p414); (try clear p415); (try clear q414); (try clear q415)
        obtain ⟨kq, x78_24, rfl, HA, HJ24, HO_7, BK403, BK413, HB⟩ := hcut
        cases kq with
        | zero => exact absurd HA.out (by simp [linkhouselaw7_FlowDominatorsSeparate.j2])
        | succ kj24 =>
         have H := HA.out
         clear HA
         simp only [linkhouselaw7_FlowDominatorsSeparate.j2] at H
         by_cases c44 : x78_24 = true
         ·
          subst c44
          have H1 : (some false) = some r := by rw [if_pos rfl] at H; exact H
          clear H
          have H := H1
          clear H1
          obtain rfl := Option.some.inj H
          go_wp2
          go_ret
          exact ⟨id_, bw_ HB⟩
         ·
          replace c44 := Bool.eq_false_iff.mpr c44
          subst c44
          have H1 : (if 0 ≤ a2 then (if a2 < (t398.length : Int) then (if (rd t398 a2) < 0 then (linkhouselaw7_FlowDominatorsSeparate.j3 kj24 l0 a1 a2 t398 true) else (if (rd t398 a2) = a1 then (linkhouselaw7_FlowDominatorsSeparate.j3 kj24 l0 a1 a2 t398 true) else (linkhouselaw7_FlowDominatorsSeparate.j3 kj24 l0 a1 a2 t398 (a2 == a1)))) else (none)) else (none)) = some r := by rw [if_neg (show ¬ (false = true) by decide)] at H; exact H
          clear H
          have H := H1
          clear H1
          have HC45 := Aside0.mk H
          clear H
          go_upto_region 9 with (fail)
          go_cut [96] (fun v96 wc => ∃ (kq : Nat) (x96_44 : Bool), v96 = .bool x96_44 ∧ Aside0 (linkhouselaw7_FlowDominatorsSeparate.j3 kq l0 a1 a2 t398 x96_44 = some r) ∧ Aside0 (kq ≤ kj24) ∧ Aside0 (Kd.R (Kd.int .i64) 3 wc w.heap.size (fun _ => True) v399 t398) ∧ Aside0 (wc.heap[gb403]? = some (.cells #[.int .i64 t401, .int .i64 t402] 28 (0, 0))) ∧ Aside0 (wc.heap[gb413]? = some (.cells #[.int .i64 t411, .int .i64 t412] 28 (0, 0))) ∧ Aside0 (Below w.heap.size w wc))
          case first =>
           have H := HC45.out
           clear HC45
           by_cases c46 : 0 ≤ a2
           ·
            rw [if_pos c46] at H
            have c46b0 : decide (0 ≤ a2) = true := decide_eq_true c46
            clear c46
            (first | rw [c46b0] | (simp only [i64_w, i32_w]; rw [c46b0]) | skip)
            by_cases c47 : a2 < (t398.length : Int)
            ·
             rw [if_pos c47] at H
             have c47b0 : decide (a2 < (t398.length : Int)) = true := decide_eq_true c47
             clear c47
             by_cases c48 : (rd t398 a2) < 0
             ·
              rw [if_pos c48] at H
              have c48b0 : decide ((rd t398 a2) < 0) = true := decide_eq_true c48
              clear c48
              have H' := Aside0.mk H
              clear H
              obtain ⟨Ao49, co49, eo49⟩ := Kd.R_slice HO_7.out
              subst eo49
              have p416 : 0 ≤ (a2 : Int) := of_decide_eq_true (by first | (with_reducible assumption) | assumption)
              have q416 : a2 < (t398.length : Int) := of_decide_eq_true (by first | (with_reducible assumption) | assumption)
              obtain ⟨ad416, e416, hx416_0⟩ := Kd.at_int (Kd.R_reads' HO_7.out).2.2 a2 p416 q416
              cases e416
              replace p416 := eq_true p416
              replace q416 := eq_true q416
              go_wp2
              go_meet
              case rel => exact ⟨_, (true), rs_, H', ⟨by have := HJ4.out; have := HJ15.out; have := HJ24.out; first | omega | exact Nat.le_refl _⟩, ⟨by (with_reducible repeat (first | apply Kd.R_alloc | apply Kd.R_drewN | apply Kd.R_drew)); exact HO_7.out⟩, ⟨bk_ BK403⟩, ⟨bk_ BK413⟩, ⟨bw_ HB⟩⟩
             ·
              rw [if_neg c48] at H
              have c48b0 : decide ((rd t398 a2) < 0) = false := decide_eq_false c48
              clear c48
              by_cases c50 : (rd t398 a2) = a1
              ·
               rw [if_pos c50] at H
               have c50b0 : ((rd t398 a2) == a1) = true := beq_iff_eq.mpr c50
               have c50b1 : ((rd t398 a2) != a1) = false := bne_eq_false_iff_eq.mpr c50
               clear c50
               have H' := Aside0.mk H
               clear H
               obtain ⟨Ao51, co51, eo51⟩ := Kd.R_slice HO_7.out
               subst eo51
               have p416 : 0 ≤ (a2 : Int) := of_decide_eq_true (by first | (with_reducible assumption) | assumption)
               have q416 : a2 < (t398.length : Int) := of_decide_eq_true (by first | (with_reducible assumption) | assumption)
               obtain ⟨ad416, e416, hx416_0⟩ := Kd.at_int (Kd.R_reads' HO_7.out).2.2 a2 p416 q416
               cases e416
               replace p416 := eq_true p416
               replace q416 := eq_true q416
               have p417 : 0 ≤ (a2 : Int) := of_decide_eq_true (by first | (with_reducible assumption) | assumption)
               have q417 : a2 < (t398.length : Int) := of_decide_eq_true (by first | (with_reducible assumption) | assumption)
               obtain ⟨ad417, e417, hx417_0⟩ := Kd.at_int (Kd.R_reads' HO_7.out).2.2 a2 p417 q417
               obtain rfl : ad416 = ad417 := (by injection e417)
               replace p417 := eq_true p417
               replace q417 := eq_true q417
               go_wp2
               go_meet
               case rel => exact ⟨_, (true), rs_, H', ⟨by have := HJ4.out; have := HJ15.out; have := HJ24.out; first | omega | exact Nat.le_refl _⟩, ⟨by (with_reducible repeat (first | apply Kd.R_alloc | apply Kd.R_drewN | apply Kd.R_drew)); exact HO_7.out⟩, ⟨bk_ BK403⟩, ⟨bk_ BK413⟩, ⟨bw_ HB⟩⟩
              ·
               rw [if_neg c50] at H
               have c50b0 : ((rd t398 a2) == a1) = false := beq_eq_false_iff_ne.mpr c50
               have c50b1 : ((rd t398 a2) != a1) = true := bne_iff_ne.mpr c50
               have H' := Aside0.mk H
               clear H
               obtain ⟨Ao52, co52, eo52⟩ := Kd.R_slice HO_7.out
               subst eo52
               have p416 : 0 ≤ (a2 : Int) := of_decide_eq_true (by first | (with_reducible assumption) | assumption)
               have q416 : a2 < (t398.length : Int) := of_decide_eq_true (by first | (with_reducible assumption) | assumption)
               obtain ⟨ad416, e416, hx416_0⟩ := Kd.at_int (Kd.R_reads' HO_7.out).2.2 a2 p416 q416
               cases e416
               replace p416 := eq_true p416
               replace q416 := eq_true q416
               have p417 : 0 ≤ (a2 : Int) := of_decide_eq_true (by first | (with_reducible assumption) | assumption)
               have q417 : a2 < (t398.length : Int) := of_decide_eq_true (by first | (with_reducible assumption) | assumption)
               obtain ⟨ad417, e417, hx417_0⟩ := Kd.at_int (Kd.R_reads' HO_7.out).2.2 a2 p417 q417
               obtain rfl : ad416 = ad417 := (by injection e417)
               replace p417 := eq_true p417
               replace q417 := eq_true q417
               go_wp2
               go_meet
               case rel => exact ⟨_, ((a2 == a1)), rs_, H', ⟨by have := HJ4.out; have := HJ15.out; have := HJ24.out; first | omega | exact Nat.le_refl _⟩, ⟨by (with_reducible repeat (first | apply Kd.R_alloc | apply Kd.R_drewN | apply Kd.R_drew)); exact HO_7.out⟩, ⟨bk_ BK403⟩, ⟨bk_ BK413⟩, ⟨bw_ HB⟩⟩
            ·
             rw [if_neg c47] at H
             exact absurd H (by simp)
           ·
            rw [if_neg c46] at H
            exact absurd H (by simp)
          case rest =>
           clear HC45
           (try clear p2); (try clear c3); (try clear c4); (try clear p4); (try clear q4); (try clear hx4); (try clear c5); (try clear c30); (try clear c30b0); (try clear c30b1); (try clear c31); (try clear c31b0); (try clear c31b1); (try clear c31b2); (try clear c32); (try clear c32b0); (try clear c33); (try clear c33b0); (try clear c34); (try clear c34b0); (try clear p41); (try clear q41); (try clear hx41); (try clear c44); (try clear c46); (try clear c46b0); (try clear c47); (try clear c47b0); (try clear c48); (try clear c48b0); (try clear c50); (try clear c50b0); (try clear c50b1); (try clear hx414_0); (try clear hx415_0); (try clear hx416_0); (try clear hx417_0); (try clear p2); (try clear p4); (try clear p41); (try clear p414); (try clear p415); (try clear p416); (try clear p417); (try clear q4); (try clear q41); (try clear q414); (try clear q415); (try clear q416); (try clear q417)
           obtain ⟨kq, x96_44, rfl, HA, HJ44, HO_7, BK403, BK413, HB⟩ := hcut
           cases kq with
           | zero => exact absurd HA.out (by simp [linkhouselaw7_FlowDominatorsSeparate.j3])
           | succ kj44 =>
            have H := HA.out
            clear HA
            simp only [linkhouselaw7_FlowDominatorsSeparate.j3] at H
            by_cases c53 : x96_44 = true
            ·
             subst c53
             have H1 : ((linkhouselaw7_crossed.f kj44).bind fun t418 => (some t418)) = some r := by rw [if_pos rfl] at H; exact H
             clear H
             have H := H1
             clear H1
             replace H := Option.bind_eq_some_iff.mp H
             obtain ⟨t418, A540, H⟩ := H
             replace H : (some t418) = some r := H
             have A54 := Aside0.mk A540
             clear A540
             obtain rfl := Option.some.inj H
             go_wp2_with (first | ((with_reducible refine gate_callee (f := 21) rfl ?_); refine goesL_ (some 97) rfl rfl Try.func21 (by kernel_rfl) rfl #[] rfl ar_ ?_; (with_reducible refine (linkhouselaw7_crossed.calls kj44  t418 _ A54.out).mono ?_); rintro e w55 ⟨rfl, hb⟩; refine ⟨_, rfl, ?_⟩; have n0_ := Aside0.mk (Kd.R_below (by (with_reducible repeat (first | apply Kd.R_alloc | apply Kd.R_drewN | apply Kd.R_drew)); exact HO_7.out) hb); have n1_ := Aside0.mk (blk_below (g := gb403) (o := .cells #[.int .i64 t401, .int .i64 t402] 28 (0, 0)) (bk_ BK403) hb); have n2_ := Aside0.mk (blk_below (g := gb413) (o := .cells #[.int .i64 t411, .int .i64 t412] 28 (0, 0)) (bk_ BK413) hb); have n3_ := Aside0.mk (below_step (bw_ HB) hb); clear HO_7; clear BK403; clear BK413; clear HB; have HO_7 := n0_; have BK403 := n1_; have BK413 := n2_; have HB := n3_; clear n0_ n1_ n2_ n3_; (try clear hb); (try clear hb2); (try clear hk); (try clear hi)))
             go_ret
             exact ⟨id_, bw_ HB⟩
            ·
             replace c53 := Bool.eq_false_iff.mpr c53
             subst c53
             have H1 : (linkhouselaw7_FlowDominatorsSeparate.l0 kj44 l0 a1 a2 t398 ([] : List (S62)) 0) = some r := by rw [if_neg (show ¬ (false = true) by decide)] at H; exact H
             clear H
             have H := H1
             clear H1
             have H' := Aside0.mk H
             clear H
             go_wp2
             go_loopg [11, 12] kj44 (fun kq v11 v12 w' => ∃ (x11_5 : List (S62)) (x12_5 : Int), v12 = .int .i64 x12_5 ∧ Aside0 (linkhouselaw7_FlowDominatorsSeparate.l0 kq l0 a1 a2 t398 x11_5 x12_5 = some r) ∧ Aside0 (kq ≤ kj44) ∧ Aside0 (Kd.R (Kd.int .i64) 3 w' w.heap.size (fun _ => True) v399 t398) ∧ Aside0 (Kd.S k62 62 w' w.heap.size (fun _ => True) v11 x11_5) ∧ Aside0 (w'.heap[gb403]? = some (.cells #[.int .i64 t401, .int .i64 t402] 28 (0, 0))) ∧ Aside0 (w'.heap[gb413]? = some (.cells #[.int .i64 t411, .int .i64 t412] 28 (0, 0))) ∧ Aside0 (Below w.heap.size w w'))
             case atStart => exact ⟨(([] : List (S62))), (0), rs_, H', ⟨Nat.le_refl _⟩, ⟨by (with_reducible repeat (first | apply Kd.R_alloc | apply Kd.R_drewN | apply Kd.R_drew)); exact HO_7.out⟩, ⟨by first | exact Kd.S_nil _ _ _ _ _ | exact Kd.N_nil _ _ _ _ _ | exact Kd.V_nil _ _ _ _ _ | exact Kd.Q_nil _ _ _ _ _ | exact Kd.R_nil _ _ _ _ _⟩, ⟨bk_ BK403⟩, ⟨bk_ BK413⟩, ⟨bw_ HB⟩⟩
             case round =>
              clear H'
              (try clear c2); (try clear p2); (try clear c3); (try clear c4); (try clear p4); (try clear q4); (try clear hx4); (try clear c5); (try clear c21); (try clear c30); (try clear c30b0); (try clear c30b1); (try clear c31); (try clear c31b0); (try clear c31b1); (try clear c31b2); (try clear c32); (try clear c32b0); (try clear c33); (try clear c33b0); (try clear c34); (try clear c34b0); (try clear p41); (try clear q41); (try clear hx41); (try clear c44); (try clear c46); (try clear c46b0); (try clear c47); (try clear c47b0); (try clear c48); (try clear c48b0); (try clear c50); (try clear c50b0); (try clear c50b1); (try clear c53); (try clear hx414_0); (try clear hx415_0); (try clear hx416_0); (try clear hx417_0); (try clear p2); (try clear p4); (try clear p41); (try clear p414); (try clear p415); (try clear p416); (try clear p417); (try clear q4); (try clear q41); (try clear q414); (try clear q415); (try clear q416); (try clear q417)
              obtain ⟨x11_5, x12_5, rfl, HA, HK5, HO_7, HO_11, BK403, BK413, HB⟩ := hrel
              cases gk with
              | zero => exact absurd HA.out (by simp [linkhouselaw7_FlowDominatorsSeparate.l0])
              | succ k5 =>
               have H := HA.out
               clear HA
               simp only [linkhouselaw7_FlowDominatorsSeparate.l0] at H
               by_cases c56 : x12_5 < (l0.length : Int)
               ·
                rw [if_pos c56] at H
                have c56b0 : decide (x12_5 < (l0.length : Int)) = true := decide_eq_true c56
                clear c56
                have H' := Aside0.mk H
                clear H
                go_wp2_with (first | ((with_reducible refine gate_dst (N := 13) rfl ?_); (try (refine gate_guard (by rfl) ?_; dsimp only)); refine bx_ (N := 13) (cs := #[.int .i64 0, .int .i64 0, .int .i64 0, .slice none 0 0]) (t := 62) ?_; intro gb427 hg w57 hbox hb; have n0_ := Aside0.mk (Kd.R_below (by (with_reducible repeat (first | apply Kd.R_alloc | apply Kd.R_drewN | apply Kd.R_drew)); exact HO_7.out) hb); have n1_ := Aside0.mk (Kd.S_below (Kd.S_elderB (by (with_reducible repeat (first | apply Kd.S_alloc | apply Kd.S_drewN | apply Kd.S_drew)); exact HO_11.out) gb427 (Nat.le_of_eq hg.symm)) hb); have n2_ := Aside0.mk (blk_below (g := gb403) (o := .cells #[.int .i64 t401, .int .i64 t402] 28 (0, 0)) (bk_ BK403) hb); have n3_ := Aside0.mk (blk_below (g := gb413) (o := .cells #[.int .i64 t411, .int .i64 t412] 28 (0, 0)) (bk_ BK413) hb); have n4_ := Aside0.mk (below_step (bw_ HB) hb); have n5_ := Aside0.mk (hbox); have n6_ := Aside0.mk ((by rw [hg]; exact (below_size (bw_ HB)) : w.heap.size ≤ gb427)); have n7_ := Aside0.mk ((by rw [hg]; exact (below_size (bw_ HB)) : w.heap.size ≤ gb427)); have n8_ := Aside0.mk ((by rw [hg]; exact Nat.ne_of_lt (blk_lt (g := gb403) (o := .cells #[.int .i64 t401, .int .i64 t402] 28 (0, 0)) (bk_ BK403)) : gb403 ≠ gb427)); have n9_ := Aside0.mk ((by rw [hg]; exact Nat.ne_of_gt (blk_lt (g := gb403) (o := .cells #[.int .i64 t401, .int .i64 t402] 28 (0, 0)) (bk_ BK403)) : gb427 ≠ gb403)); have n10_ := Aside0.mk ((by rw [hg]; exact Nat.ne_of_lt (blk_lt (g := gb413) (o := .cells #[.int .i64 t411, .int .i64 t412] 28 (0, 0)) (bk_ BK413)) : gb413 ≠ gb427)); have n11_ := Aside0.mk ((by rw [hg]; exact Nat.ne_of_gt (blk_lt (g := gb413) (o := .cells #[.int .i64 t411, .int .i64 t412] 28 (0, 0)) (bk_ BK413)) : gb427 ≠ gb413)); clear HO_7; clear HO_11; clear BK403; clear BK413; clear HB; have HO_7 := n0_; have HO_11 := n1_; have BK403 := n2_; have BK413 := n3_; have HB := n4_; have BK427 := n5_; have GW427 := n6_; have GE427 := n7_; have NB403_427 := n8_; have NB427_403 := n9_; have NB413_427 := n10_; have NB427_413 := n11_; clear n0_ n1_ n2_ n3_ n4_ n5_ n6_ n7_ n8_ n9_ n10_ n11_; clear hb hbox hg))
                go_loopg [14] k5 (fun kq v14 w' => ∃ (x14_6 : Int) (x428003_6 : List (S64)) (u428003 : Value), v14 = .int .i64 x14_6 ∧ Aside0 (linkhouselaw7_FlowDominatorsSeparate.l1 kq l0 a1 a2 t398 x11_5 x12_5 x14_6 0 0 0 x428003_6 = some r) ∧ Aside0 (kq ≤ k5) ∧ Aside0 (Kd.R (Kd.int .i64) 3 w' w.heap.size (fun _ => True) v399 t398) ∧ Aside0 (Kd.S k62 62 w' w.heap.size (fun k_ => some k_ ≠ (u428003 : Value).ownBlock ∧ k_ ≠ gb427) u11 x11_5) ∧ Aside0 (Kd.R k64 64 w' w.heap.size (fun _ => True) u428003 x428003_6) ∧ Aside0 (w'.heap[gb403]? = some (.cells #[.int .i64 t401, .int .i64 t402] 28 (0, 0))) ∧ Aside0 (w'.heap[gb413]? = some (.cells #[.int .i64 t411, .int .i64 t412] 28 (0, 0))) ∧ Aside0 (w'.heap[gb427]? = some (.cells #[.int .i64 0, .int .i64 0, .int .i64 0, u428003] 62 (0, 0))) ∧ Aside0 (Below w.heap.size w w'))
                case atStart => exact ⟨(0), (([] : List (S64))), (.slice none 0 0), rs_, H', ⟨Nat.le_refl _⟩, ⟨by (with_reducible repeat (first | apply Kd.R_alloc | apply Kd.R_drewN | apply Kd.R_drew)); exact HO_7.out⟩, ⟨by (with_reducible repeat (first | apply Kd.S_alloc | apply Kd.S_drewN | apply Kd.S_drew)); exact Kd.S_mono HO_11.out (fun _ hk => ⟨(by simp [Value.ownBlock]), hk.2⟩)⟩, ⟨by first | exact Kd.R_nil _ _ _ _ _ | exact Kd.N_nil _ _ _ _ _ | exact Kd.V_nil _ _ _ _ _ | exact Kd.Q_nil _ _ _ _ _ | exact Kd.S_nil _ _ _ _ _⟩, ⟨bk_ BK403⟩, ⟨bk_ BK413⟩, ⟨bk_ BK427⟩, ⟨bw_ HB⟩⟩
                case round =>
                 clear H'
                 (try clear c2); (try clear p2); (try clear c3); (try clear c4); (try clear p4); (try clear q4); (try clear hx4); (try clear c5); (try clear c21); (try clear c30); (try clear c30b0); (try clear c30b1); (try clear c31); (try clear c31b0); (try clear c31b1); (try clear c31b2); (try clear c32); (try clear c32b0); (try clear c33); (try clear c33b0); (try clear c34); (try clear c34b0); (try clear p41); (try clear q41); (try clear hx41); (try clear c44); (try clear c46); (try clear c46b0); (try clear c47); (try clear c47b0); (try clear c48); (try clear c48b0); (try clear c50); (try clear c50b0); (try clear c50b1); (try clear c53); (try clear c56); (try clear c56b0); (try clear hx414_0); (try clear hx415_0); (try clear hx416_0); (try clear hx417_0); (try clear p2); (try clear p4); (try clear p41); (try clear p414); (try clear p415); (try clear p416); (try clear p417); (try clear q4); (try clear q41); (try clear q414); (try clear q415); (try clear q416); (try clear q417)
                 obtain ⟨x14_6, x428003_6, u428003, rfl, HA, HK6, HO_7, HO_11, HO_428003, BK403, BK413, BK427, HB⟩ := hrel
                 cases gk with
                 | zero => exact absurd HA.out (by simp [linkhouselaw7_FlowDominatorsSeparate.l1])
                 | succ k6 =>
                  have H := HA.out
                  clear HA
                  simp only [linkhouselaw7_FlowDominatorsSeparate.l1] at H
                  by_cases c58 : 0 ≤ x12_5
                  ·
                   rw [if_pos c58] at H
                   have c58b0 : decide (0 ≤ x12_5) = true := decide_eq_true c58
                   clear c58
                   by_cases c59 : x12_5 < (l0.length : Int)
                   ·
                    rw [if_pos c59] at H
                    have c59b0 : decide (x12_5 < (l0.length : Int)) = true := decide_eq_true c59
                    clear c59
                    by_cases c60 : x14_6 < (((rd_T62 l0 x12_5).f3).length : Int)
                    ·
                     rw [if_pos c60] at H
                     have c60b0 : decide (x14_6 < (((rd_T62 l0 x12_5).f3).length : Int)) = true := decide_eq_true c60
                     clear c60
                     by_cases c61 : 0 ≤ x14_6
                     ·
                      rw [if_pos c61] at H
                      have c61b0 : decide (0 ≤ x14_6) = true := decide_eq_true c61
                      clear c61
                      by_cases c62 : 0 ≤ a2
                      ·
                       rw [if_pos c62] at H
                       have c62b0 : decide (0 ≤ a2) = true := decide_eq_true c62
                       clear c62
                       by_cases c63 : a2 < (t398.length : Int)
                       ·
                        rw [if_pos c63] at H
                        have c63b0 : decide (a2 < (t398.length : Int)) = true := decide_eq_true c63
                        clear c63
                        by_cases c64 : ((rd_T64 ((rd_T62 l0 x12_5).f3) x14_6).f1) = (rd t398 a2)
                        ·
                         rw [if_pos c64] at H
                         have c64b0 : (((rd_T64 ((rd_T62 l0 x12_5).f3) x14_6).f1) == (rd t398 a2)) = true := beq_iff_eq.mpr c64
                         have c64b1 : (((rd_T64 ((rd_T62 l0 x12_5).f3) x14_6).f1) != (rd t398 a2)) = false := bne_eq_false_iff_eq.mpr c64
                         clear c64
                         have H' := Aside0.mk H
                         clear H
                         have p428 : 0 ≤ (x12_5 : Int) := of_decide_eq_true (by first | (with_reducible assumption) | assumption)
                         have q428 : x12_5 < (l0.length : Int) := of_decide_eq_true (by first | (with_reducible assumption) | assumption)
                         obtain ⟨ad428, A428_3, c428_3, e428, hx428_0, hx428_1, hx428_2, hx428_3, hl428_3, hi428_3⟩ := at_T62 HR0.out x12_5 p428 q428
                         cases e428
                         replace hx428_0 := (HB.out.cell (World.block_lt_of_cell? w _ hx428_0)).trans hx428_0
                         replace hx428_1 := (HB.out.cell (World.block_lt_of_cell? w _ hx428_1)).trans hx428_1
                         replace hx428_2 := (HB.out.cell (World.block_lt_of_cell? w _ hx428_2)).trans hx428_2
                         replace hx428_3 := (HB.out.cell (World.block_lt_of_cell? w _ hx428_3)).trans hx428_3
                         have HR428_3 := Aside0.mk hi428_3
                         have HC428_3 := Aside0.mk hl428_3
                         clear hi428_3 hl428_3
                         replace p428 := eq_true p428
                         replace q428 := eq_true q428
                         try go_wp2
                         have n0_ := Aside0.mk (Kd.R_drew HO_7.out)
                         have n1_ := Aside0.mk (Kd.S_drew HO_11.out)
                         have n2_ := Aside0.mk (Kd.R_drew HO_428003.out)
                         have n3_ := Aside0.mk (blk_drew BK403.out)
                         have n4_ := Aside0.mk (blk_drew BK413.out)
                         have n5_ := Aside0.mk (blk_drew BK427.out)
                         have n6_ := Aside0.mk (below_drew1 HB.out)
                         clear HO_7
                         clear HO_11
                         clear HO_428003
                         clear BK403
                         clear BK413
                         clear BK427
                         clear HB
                         have HO_7 := n0_
                         have HO_11 := n1_
                         have HO_428003 := n2_
                         have BK403 := n3_
                         have BK413 := n4_
                         have BK427 := n5_
                         have HB := n6_
                         clear n0_ n1_ n2_ n3_ n4_ n5_ n6_
                         have p429 : 0 ≤ (x12_5 : Int) := of_decide_eq_true (by first | (with_reducible assumption) | assumption)
                         have q429 : x12_5 < (l0.length : Int) := of_decide_eq_true (by first | (with_reducible assumption) | assumption)
                         obtain ⟨ad429, A429_3, c429_3, e429, hx429_0, hx429_1, hx429_2, hx429_3, hl429_3, hi429_3⟩ := at_T62 HR0.out x12_5 p429 q429
                         have hw429_3 := hx429_3
                         have hw429_2 := hx429_2
                         have hw429_1 := hx429_1
                         have hw429_0 := hx429_0
                         obtain rfl : ad428 = ad429 := (by injection e429)
                         replace hx429_0 := (HB.out.cell (World.block_lt_of_cell? w _ hx429_0)).trans hx429_0
                         replace hx429_1 := (HB.out.cell (World.block_lt_of_cell? w _ hx429_1)).trans hx429_1
                         replace hx429_2 := (HB.out.cell (World.block_lt_of_cell? w _ hx429_2)).trans hx429_2
                         replace hx429_3 := (HB.out.cell (World.block_lt_of_cell? w _ hx429_3)).trans hx429_3
                         have HR429_3 := Aside0.mk hi429_3
                         have HC429_3 := Aside0.mk hl429_3
                         clear hi429_3 hl429_3
                         replace p429 := eq_true p429
                         replace q429 := eq_true q429
                         have p430 : 0 ≤ (x14_6 : Int) := of_decide_eq_true (by first | (with_reducible assumption) | assumption)
                         have q430 : x14_6 < (((rd_T62 l0 x12_5).f3).length : Int) := of_decide_eq_true (by first | (with_reducible assumption) | assumption)
                         obtain ⟨ad430, e430, hx430_0, hx430_1⟩ := at_T64 HR429_3.out x14_6 p430 q430
                         have hw430_1 := hx430_1
                         have hw430_0 := hx430_0
                         cases e430
                         replace hx430_0 := (HB.out.cell (World.block_lt_of_cell? w _ hx430_0)).trans hx430_0
                         replace hx430_1 := (HB.out.cell (World.block_lt_of_cell? w _ hx430_1)).trans hx430_1
                         replace p430 := eq_true p430
                         replace q430 := eq_true q430
                         obtain ⟨Ao66, co66, eo66⟩ := Kd.R_slice HO_7.out
                         (first | subst eo66 | (injection eo66 with f1_ f2_ f3_; have f4_ := f1_.symm; have f5_ := f3_.symm; clear f1_ f2_ f3_; subst f4_; subst f5_))
                         have p431 : 0 ≤ (a2 : Int) := of_decide_eq_true (by first | (with_reducible assumption) | assumption)
                         have q431 : a2 < (t398.length : Int) := of_decide_eq_true (by first | (with_reducible assumption) | assumption)
                         obtain ⟨ad431, e431, hx431_0⟩ := Kd.at_int (Kd.R_reads' HO_7.out).2.2 a2 p431 q431
                         cases e431
                         replace p431 := eq_true p431
                         replace q431 := eq_true q431
                         refine start_ (n := 14) (S := fun w' => w'.cell? (ad428.add ((x12_5).toNat * 4)) = some (.int .i64 ((rd_T62 l0 x12_5).f0)) ∧ w'.cell? ⟨(ad428.add ((x12_5).toNat * 4)).block, (ad428.add ((x12_5).toNat * 4)).off + 1, none⟩ = some (.int .i64 ((rd_T62 l0 x12_5).f1)) ∧ w'.cell? ⟨(ad428.add ((x12_5).toNat * 4)).block, (ad428.add ((x12_5).toNat * 4)).off + 2, none⟩ = some (.int .i64 ((rd_T62 l0 x12_5).f2)) ∧ w'.cell? ⟨(ad428.add ((x12_5).toNat * 4)).block, (ad428.add ((x12_5).toNat * 4)).off + 3, none⟩ = some (.slice (some ad430) ((rd_T62 l0 x12_5).f3).length c429_3) ∧ w'.cell? (ad430.add ((x14_6).toNat * 2)) = some (.int .i64 ((rd_T64 ((rd_T62 l0 x12_5).f3) x14_6).f0)) ∧ w'.cell? ⟨(ad430.add ((x14_6).toNat * 2)).block, (ad430.add ((x14_6).toNat * 2)).off + 1, none⟩ = some (.int .i64 ((rd_T64 ((rd_T62 l0 x12_5).f3) x14_6).f1)) ∧ w'.cell? (ad431.add (a2).toNat) = some (.int .i64 (rd t398 a2))) (ds := []) #[false, false, false, false, false, false, false, false, false, false, false, false, false, false] (by kernel_rfl) rfl rfl ⟨((HB.out.cell (World.block_lt_of_cell? w _ hw429_0)).trans hw429_0), ((HB.out.cell (World.block_lt_of_cell? w _ hw429_1)).trans hw429_1), ((HB.out.cell (World.block_lt_of_cell? w _ hw429_2)).trans hw429_2), ((HB.out.cell (World.block_lt_of_cell? w _ hw429_3)).trans hw429_3), ((HB.out.cell (World.block_lt_of_cell? w _ hw430_0)).trans hw430_0), ((HB.out.cell (World.block_lt_of_cell? w _ hw430_1)).trans hw430_1), hx431_0⟩ (fun hHeld => ?_); refine with_tabW linkhouselaw7_FlowDominatorsSeparate.tab19 linkhouselaw7_FlowDominatorsSeparate.bits19 (fun HT_ HW_ => ?_)
                         generalize wr.drew = w65 at HO_7 HO_11 HO_428003 BK403 BK413 BK427 HB HR429_3 hx429_0 hx429_1 hx429_2 hx429_3 hx430_0 hx430_1 hx431_0 hHeld ⊢
                         refine pure_ (i := 0) (N := some 114) (v := ?_) (a' := ?_) #[true, false, false, false, false, false, false, false, false, false, false, false, false, false] rfl rfl (any_of HT_.out (by kernel_rfl)) (fun _ _ _ h => h) (Or.inl ⟨by rfl, ?_⟩) ?_ ?_
                         rotate_left
                         ·
                          intro w'
                          go_simp
                          with_reducible rfl
                         rotate_left
                         ·
                          simp only [Act.put, List.setIfInBounds_toArray, List.set_cons_zero, List.set_cons_succ, i64_w, i32_w]
                          rfl
                         refine pure_ (i := 1) (N := some 115) (v := ?_) (a' := ?_) #[true, true, false, false, false, false, false, false, false, false, false, false, false, false] rfl rfl (any_of HT_.out (by kernel_rfl)) (fun _ _ _ h => h) (Or.inl ⟨by rfl, ?_⟩) ?_ ?_
                         rotate_left
                         ·
                          intro w'
                          go_simp
                          with_reducible rfl
                         rotate_left
                         ·
                          simp only [Act.put, List.setIfInBounds_toArray, List.set_cons_zero, List.set_cons_succ, i64_w, i32_w]
                          rfl
                         refine pure_ (i := 2) (N := some 116) (v := ?_) (a' := ?_) #[true, true, true, false, false, false, false, false, false, false, false, false, false, false] rfl rfl (any_of HT_.out (by kernel_rfl)) (fun _ _ _ h => h) (Or.inl ⟨by rfl, ?_⟩) ?_ ?_
                         rotate_left
                         ·
                          intro w'
                          go_simp
                          with_reducible rfl
                         rotate_left
                         ·
                          simp only [Act.put, List.setIfInBounds_toArray, List.set_cons_zero, List.set_cons_succ, i64_w, i32_w]
                          rfl
                         refine pure_ (i := 3) (N := some 117) (v := ?_) (a' := ?_) #[true, true, true, true, false, false, false, false, false, false, false, false, false, false] rfl rfl (any_of HT_.out (by kernel_rfl)) (fun _ _ _ h => h) (Or.inl ⟨by rfl, ?_⟩) ?_ ?_
                         rotate_left
                         ·
                          intro w'
                          go_simp
                          with_reducible rfl
                         rotate_left
                         ·
                          simp only [Act.put, List.setIfInBounds_toArray, List.set_cons_zero, List.set_cons_succ, i64_w, i32_w]
                          rfl
                         refine pure_ (i := 5) (N := some 119) (v := ?_) (a' := ?_) #[true, true, true, true, false, true, false, false, false, false, false, false, false, false] rfl rfl (any_of HT_.out (by kernel_rfl)) (fun _ _ _ h => h) (Or.inl ⟨by rfl, ?_⟩) ?_ ?_
                         rotate_left
                         ·
                          intro w'
                          go_simp
                          with_reducible rfl
                         rotate_left
                         ·
                          simp only [Act.put, List.setIfInBounds_toArray, List.set_cons_zero, List.set_cons_succ, i64_w, i32_w]
                          rfl
                         refine pure_ (i := 9) (N := some 123) (v := ?_) (a' := ?_) #[true, true, true, true, false, true, false, false, false, true, false, false, false, false] rfl rfl (any_of HT_.out (by kernel_rfl)) (fun _ _ _ h => h) (Or.inl ⟨by rfl, ?_⟩) ?_ ?_
                         rotate_left
                         ·
                          intro w'
                          go_simp
                          with_reducible rfl
                         rotate_left
                         ·
                          simp only [Act.put, List.setIfInBounds_toArray, List.set_cons_zero, List.set_cons_succ, i64_w, i32_w]
                          rfl
                         refine pure_ (i := 10) (N := some 124) (v := ?_) (a' := ?_) #[true, true, true, true, false, true, false, false, false, true, true, false, false, false] rfl rfl (any_of HT_.out (by kernel_rfl)) (fun _ _ _ h => h) (Or.inl ⟨by rfl, ?_⟩) ?_ ?_
                         rotate_left
                         ·
                          intro w'
                          go_simp
                          with_reducible rfl
                         rotate_left
                         ·
                          simp only [Act.put, List.setIfInBounds_toArray, List.set_cons_zero, List.set_cons_succ, i64_w, i32_w]
                          rfl
                         refine pure_ (i := 11) (N := some 125) (v := ?_) (a' := ?_) #[true, true, true, true, false, true, false, false, false, true, true, true, false, false] rfl rfl (any_of HT_.out (by kernel_rfl)) (fun _ _ _ h => h) (Or.inl ⟨by rfl, ?_⟩) ?_ ?_
                         rotate_left
                         ·
                          intro w'
                          go_simp
                          with_reducible rfl
                         rotate_left
                         ·
                          simp only [Act.put, List.setIfInBounds_toArray, List.set_cons_zero, List.set_cons_succ, i64_w, i32_w]
                          rfl
                         refine take_ (i := 4) (N := some 118) (v := ?_) (a' := ?_) #[true, true, true, true, true, true, false, false, false, true, true, true, false, false] rfl rfl (take_ofW HT_.out HW_.out (by kernel_rfl)) (fun _ _ _ h => h) (Or.inl ⟨by rfl, ?_⟩) hHeld ?_ ?_
                         rotate_left
                         ·
                          rintro w' ⟨s0, s1, s2, s3, s4, s5, s6⟩
                          go_simp
                          with_reducible rfl
                         rotate_left
                         ·
                          simp only [Act.put, List.setIfInBounds_toArray, List.set_cons_zero, List.set_cons_succ, i64_w, i32_w]
                          rfl
                         refine pure_ (i := 6) (N := some 120) (v := ?_) (a' := ?_) #[true, true, true, true, true, true, true, false, false, true, true, true, false, false] rfl rfl (any_of HT_.out (by kernel_rfl)) (fun _ _ _ h => h) (Or.inl ⟨by rfl, ?_⟩) ?_ ?_
                         rotate_left
                         ·
                          intro w'
                          go_simp
                          with_reducible rfl
                         rotate_left
                         ·
                          simp only [Act.put, List.setIfInBounds_toArray, List.set_cons_zero, List.set_cons_succ, i64_w, i32_w]
                          rfl
                         refine pure_ (i := 7) (N := some 121) (v := ?_) (a' := ?_) #[true, true, true, true, true, true, true, true, false, true, true, true, false, false] rfl rfl (any_of HT_.out (by kernel_rfl)) (fun _ _ _ h => h) (Or.inl ⟨by rfl, ?_⟩) ?_ ?_
                         rotate_left
                         ·
                          intro w'
                          go_simp
                          with_reducible rfl
                         rotate_left
                         ·
                          simp only [Act.put, List.setIfInBounds_toArray, List.set_cons_zero, List.set_cons_succ, i64_w, i32_w]
                          rfl
                         refine take_ (i := 8) (N := some 122) (v := ?_) (a' := ?_) #[true, true, true, true, true, true, true, true, true, true, true, true, false, false] rfl rfl (take_ofW HT_.out HW_.out (by kernel_rfl)) (fun _ _ _ h => h) (Or.inl ⟨by rfl, ?_⟩) hHeld ?_ ?_
                         rotate_left
                         ·
                          rintro w' ⟨s0, s1, s2, s3, s4, s5, s6⟩
                          go_simp
                          with_reducible rfl
                         rotate_left
                         ·
                          simp only [Act.put, List.setIfInBounds_toArray, List.set_cons_zero, List.set_cons_succ, i64_w, i32_w]
                          rfl
                         refine take_ (i := 12) (N := some 126) (v := ?_) (a' := ?_) #[true, true, true, true, true, true, true, true, true, true, true, true, true, false] rfl rfl (take_ofW HT_.out HW_.out (by kernel_rfl)) (fun _ _ _ h => h) (Or.inl ⟨by rfl, ?_⟩) hHeld ?_ ?_
                         rotate_left
                         ·
                          rintro w' ⟨s0, s1, s2, s3, s4, s5, s6⟩
                          go_simp
                          with_reducible rfl
                         rotate_left
                         ·
                          simp only [Act.put, List.setIfInBounds_toArray, List.set_cons_zero, List.set_cons_succ, i64_w, i32_w]
                          rfl
                         refine pure_ (i := 13) (N := some 127) (v := ?_) (a' := ?_) #[true, true, true, true, true, true, true, true, true, true, true, true, true, true] rfl rfl (any_of HT_.out (by kernel_rfl)) (fun _ _ _ h => h) (Or.inl ⟨by rfl, ?_⟩) ?_ ?_
                         rotate_left
                         ·
                          intro w'
                          go_simp
                          with_reducible rfl
                         rotate_left
                         ·
                          simp only [Act.put, List.setIfInBounds_toArray, List.set_cons_zero, List.set_cons_succ, i64_w, i32_w]
                          rfl
                         refine done_ (done_of HT_.out (by kernel_rfl)) ?_
                         try go_wp2
                         go_roundg k6
                         case measure => have := HJ4.out; have := HJ15.out; have := HJ24.out; have := HJ44.out; have := HK5.out; have := HK6.out; omega
                         case rel => exact ⟨(wrap64 (x14_6 + 1)), (x428003_6), (u428003), rs_, H', ⟨by have := HJ4.out; have := HJ15.out; have := HJ24.out; have := HJ44.out; have := HK5.out; have := HK6.out; omega⟩, ⟨by (with_reducible repeat (first | apply Kd.R_alloc | apply Kd.R_drewN | apply Kd.R_drew)); exact HO_7.out⟩, ⟨by (with_reducible repeat (first | apply Kd.S_alloc | apply Kd.S_drewN | apply Kd.S_drew)); exact HO_11.out⟩, ⟨by (with_reducible repeat (first | apply Kd.R_alloc | apply Kd.R_drewN | apply Kd.R_drew)); exact HO_428003.out⟩, ⟨bk_ BK403⟩, ⟨bk_ BK413⟩, ⟨bk_ BK427⟩, ⟨bw_ HB⟩⟩
                        ·
                         rw [if_neg c64] at H
                         have c64b0 : (((rd_T64 ((rd_T62 l0 x12_5).f3) x14_6).f1) == (rd t398 a2)) = false := beq_eq_false_iff_ne.mpr c64
                         have c64b1 : (((rd_T64 ((rd_T62 l0 x12_5).f3) x14_6).f1) != (rd t398 a2)) = true := bne_iff_ne.mpr c64
                         by_cases c67 : x428003_6.length < 8796093022208
                         ·
                          rw [if_pos c67] at H
                          have LMc67 := Aside0.mk c67
                          clear c67
                          obtain ⟨y434, hy434⟩ : ∃ y_ : List (S64), y_ = (x428003_6 ++ [(⟨(rd_T64 ((rd_T62 l0 x12_5).f3) x14_6).f0, (rd_T64 ((rd_T62 l0 x12_5).f3) x14_6).f1⟩ : S64)]) := ⟨_, rfl⟩
                          replace H : (linkhouselaw7_FlowDominatorsSeparate.l1 k6 l0 a1 a2 t398 x11_5 x12_5 (wrap64 (x14_6 + 1)) 0 0 0 y434) = some r := by first | (rw [hy434]; with_reducible exact H) | (have H2_ := (Option.bind_some _ _).symm.trans H; rw [hy434]; with_reducible exact H2_) | (have H2_ := (Option.bind_some _ _).symm.trans H; with_reducible exact H2_) | with_reducible exact H | (rw [hy434]; exact H) | exact H
                          have Ny434 := Aside0.mk hy434
                          clear hy434
                          have H' := Aside0.mk H
                          clear H
                          have p428 : 0 ≤ (x12_5 : Int) := of_decide_eq_true (by first | (with_reducible assumption) | assumption)
                          have q428 : x12_5 < (l0.length : Int) := of_decide_eq_true (by first | (with_reducible assumption) | assumption)
                          obtain ⟨ad428, A428_3, c428_3, e428, hx428_0, hx428_1, hx428_2, hx428_3, hl428_3, hi428_3⟩ := at_T62 HR0.out x12_5 p428 q428
                          cases e428
                          replace hx428_0 := (HB.out.cell (World.block_lt_of_cell? w _ hx428_0)).trans hx428_0
                          replace hx428_1 := (HB.out.cell (World.block_lt_of_cell? w _ hx428_1)).trans hx428_1
                          replace hx428_2 := (HB.out.cell (World.block_lt_of_cell? w _ hx428_2)).trans hx428_2
                          replace hx428_3 := (HB.out.cell (World.block_lt_of_cell? w _ hx428_3)).trans hx428_3
                          have HR428_3 := Aside0.mk hi428_3
                          have HC428_3 := Aside0.mk hl428_3
                          clear hi428_3 hl428_3
                          replace p428 := eq_true p428
                          replace q428 := eq_true q428
                          try go_wp2
                          have n0_ := Aside0.mk (Kd.R_drew HO_7.out)
                          have n1_ := Aside0.mk (Kd.S_drew HO_11.out)
                          have n2_ := Aside0.mk (Kd.R_drew HO_428003.out)
                          have n3_ := Aside0.mk (blk_drew BK403.out)
                          have n4_ := Aside0.mk (blk_drew BK413.out)
                          have n5_ := Aside0.mk (blk_drew BK427.out)
                          have n6_ := Aside0.mk (below_drew1 HB.out)
                          clear HO_7
                          clear HO_11
                          clear HO_428003
                          clear BK403
                          clear BK413
                          clear BK427
                          clear HB
                          have HO_7 := n0_
                          have HO_11 := n1_
                          have HO_428003 := n2_
                          have BK403 := n3_
                          have BK413 := n4_
                          have BK427 := n5_
                          have HB := n6_
                          clear n0_ n1_ n2_ n3_ n4_ n5_ n6_
                          have p429 : 0 ≤ (x12_5 : Int) := of_decide_eq_true (by first | (with_reducible assumption) | assumption)
                          have q429 : x12_5 < (l0.length : Int) := of_decide_eq_true (by first | (with_reducible assumption) | assumption)
                          obtain ⟨ad429, A429_3, c429_3, e429, hx429_0, hx429_1, hx429_2, hx429_3, hl429_3, hi429_3⟩ := at_T62 HR0.out x12_5 p429 q429
                          have hw429_3 := hx429_3
                          have hw429_2 := hx429_2
                          have hw429_1 := hx429_1
                          have hw429_0 := hx429_0
                          obtain rfl : ad428 = ad429 := (by injection e429)
                          replace hx429_0 := (HB.out.cell (World.block_lt_of_cell? w _ hx429_0)).trans hx429_0
                          replace hx429_1 := (HB.out.cell (World.block_lt_of_cell? w _ hx429_1)).trans hx429_1
                          replace hx429_2 := (HB.out.cell (World.block_lt_of_cell? w _ hx429_2)).trans hx429_2
                          replace hx429_3 := (HB.out.cell (World.block_lt_of_cell? w _ hx429_3)).trans hx429_3
                          have HR429_3 := Aside0.mk hi429_3
                          have HC429_3 := Aside0.mk hl429_3
                          clear hi429_3 hl429_3
                          replace p429 := eq_true p429
                          replace q429 := eq_true q429
                          have p430 : 0 ≤ (x14_6 : Int) := of_decide_eq_true (by first | (with_reducible assumption) | assumption)
                          have q430 : x14_6 < (((rd_T62 l0 x12_5).f3).length : Int) := of_decide_eq_true (by first | (with_reducible assumption) | assumption)
                          obtain ⟨ad430, e430, hx430_0, hx430_1⟩ := at_T64 HR429_3.out x14_6 p430 q430
                          have hw430_1 := hx430_1
                          have hw430_0 := hx430_0
                          cases e430
                          replace hx430_0 := (HB.out.cell (World.block_lt_of_cell? w _ hx430_0)).trans hx430_0
                          replace hx430_1 := (HB.out.cell (World.block_lt_of_cell? w _ hx430_1)).trans hx430_1
                          replace p430 := eq_true p430
                          replace q430 := eq_true q430
                          obtain ⟨Ao69, co69, eo69⟩ := Kd.R_slice HO_7.out
                          (first | subst eo69 | (injection eo69 with f1_ f2_ f3_; have f4_ := f1_.symm; have f5_ := f3_.symm; clear f1_ f2_ f3_; subst f4_; subst f5_))
                          have p431 : 0 ≤ (a2 : Int) := of_decide_eq_true (by first | (with_reducible assumption) | assumption)
                          have q431 : a2 < (t398.length : Int) := of_decide_eq_true (by first | (with_reducible assumption) | assumption)
                          obtain ⟨ad431, e431, hx431_0⟩ := Kd.at_int (Kd.R_reads' HO_7.out).2.2 a2 p431 q431
                          cases e431
                          replace p431 := eq_true p431
                          replace q431 := eq_true q431
                          refine start_ (n := 14) (S := fun w' => w'.cell? (ad428.add ((x12_5).toNat * 4)) = some (.int .i64 ((rd_T62 l0 x12_5).f0)) ∧ w'.cell? ⟨(ad428.add ((x12_5).toNat * 4)).block, (ad428.add ((x12_5).toNat * 4)).off + 1, none⟩ = some (.int .i64 ((rd_T62 l0 x12_5).f1)) ∧ w'.cell? ⟨(ad428.add ((x12_5).toNat * 4)).block, (ad428.add ((x12_5).toNat * 4)).off + 2, none⟩ = some (.int .i64 ((rd_T62 l0 x12_5).f2)) ∧ w'.cell? ⟨(ad428.add ((x12_5).toNat * 4)).block, (ad428.add ((x12_5).toNat * 4)).off + 3, none⟩ = some (.slice (some ad430) ((rd_T62 l0 x12_5).f3).length c429_3) ∧ w'.cell? (ad430.add ((x14_6).toNat * 2)) = some (.int .i64 ((rd_T64 ((rd_T62 l0 x12_5).f3) x14_6).f0)) ∧ w'.cell? ⟨(ad430.add ((x14_6).toNat * 2)).block, (ad430.add ((x14_6).toNat * 2)).off + 1, none⟩ = some (.int .i64 ((rd_T64 ((rd_T62 l0 x12_5).f3) x14_6).f1)) ∧ w'.cell? (ad431.add (a2).toNat) = some (.int .i64 (rd t398 a2))) (ds := []) #[false, false, false, false, false, false, false, false, false, false, false, false, false, false] (by kernel_rfl) rfl rfl ⟨((HB.out.cell (World.block_lt_of_cell? w _ hw429_0)).trans hw429_0), ((HB.out.cell (World.block_lt_of_cell? w _ hw429_1)).trans hw429_1), ((HB.out.cell (World.block_lt_of_cell? w _ hw429_2)).trans hw429_2), ((HB.out.cell (World.block_lt_of_cell? w _ hw429_3)).trans hw429_3), ((HB.out.cell (World.block_lt_of_cell? w _ hw430_0)).trans hw430_0), ((HB.out.cell (World.block_lt_of_cell? w _ hw430_1)).trans hw430_1), hx431_0⟩ (fun hHeld => ?_); refine with_tabW linkhouselaw7_FlowDominatorsSeparate.tab19 linkhouselaw7_FlowDominatorsSeparate.bits19 (fun HT_ HW_ => ?_)
                          generalize wr.drew = w68 at HO_7 HO_11 HO_428003 BK403 BK413 BK427 HB HR429_3 hx429_0 hx429_1 hx429_2 hx429_3 hx430_0 hx430_1 hx431_0 hHeld ⊢
                          refine pure_ (i := 0) (N := some 114) (v := ?_) (a' := ?_) #[true, false, false, false, false, false, false, false, false, false, false, false, false, false] rfl rfl (any_of HT_.out (by kernel_rfl)) (fun _ _ _ h => h) (Or.inl ⟨by rfl, ?_⟩) ?_ ?_
                          rotate_left
                          ·
                           intro w'
                           go_simp
                           with_reducible rfl
                          rotate_left
                          ·
                           simp only [Act.put, List.setIfInBounds_toArray, List.set_cons_zero, List.set_cons_succ, i64_w, i32_w]
                           rfl
                          refine pure_ (i := 1) (N := some 115) (v := ?_) (a' := ?_) #[true, true, false, false, false, false, false, false, false, false, false, false, false, false] rfl rfl (any_of HT_.out (by kernel_rfl)) (fun _ _ _ h => h) (Or.inl ⟨by rfl, ?_⟩) ?_ ?_
                          rotate_left
                          ·
                           intro w'
                           go_simp
                           with_reducible rfl
                          rotate_left
                          ·
                           simp only [Act.put, List.setIfInBounds_toArray, List.set_cons_zero, List.set_cons_succ, i64_w, i32_w]
                           rfl
                          refine pure_ (i := 2) (N := some 116) (v := ?_) (a' := ?_) #[true, true, true, false, false, false, false, false, false, false, false, false, false, false] rfl rfl (any_of HT_.out (by kernel_rfl)) (fun _ _ _ h => h) (Or.inl ⟨by rfl, ?_⟩) ?_ ?_
                          rotate_left
                          ·
                           intro w'
                           go_simp
                           with_reducible rfl
                          rotate_left
                          ·
                           simp only [Act.put, List.setIfInBounds_toArray, List.set_cons_zero, List.set_cons_succ, i64_w, i32_w]
                           rfl
                          refine pure_ (i := 3) (N := some 117) (v := ?_) (a' := ?_) #[true, true, true, true, false, false, false, false, false, false, false, false, false, false] rfl rfl (any_of HT_.out (by kernel_rfl)) (fun _ _ _ h => h) (Or.inl ⟨by rfl, ?_⟩) ?_ ?_
                          rotate_left
                          ·
                           intro w'
                           go_simp
                           with_reducible rfl
                          rotate_left
                          ·
                           simp only [Act.put, List.setIfInBounds_toArray, List.set_cons_zero, List.set_cons_succ, i64_w, i32_w]
                           rfl
                          refine pure_ (i := 5) (N := some 119) (v := ?_) (a' := ?_) #[true, true, true, true, false, true, false, false, false, false, false, false, false, false] rfl rfl (any_of HT_.out (by kernel_rfl)) (fun _ _ _ h => h) (Or.inl ⟨by rfl, ?_⟩) ?_ ?_
                          rotate_left
                          ·
                           intro w'
                           go_simp
                           with_reducible rfl
                          rotate_left
                          ·
                           simp only [Act.put, List.setIfInBounds_toArray, List.set_cons_zero, List.set_cons_succ, i64_w, i32_w]
                           rfl
                          refine pure_ (i := 9) (N := some 123) (v := ?_) (a' := ?_) #[true, true, true, true, false, true, false, false, false, true, false, false, false, false] rfl rfl (any_of HT_.out (by kernel_rfl)) (fun _ _ _ h => h) (Or.inl ⟨by rfl, ?_⟩) ?_ ?_
                          rotate_left
                          ·
                           intro w'
                           go_simp
                           with_reducible rfl
                          rotate_left
                          ·
                           simp only [Act.put, List.setIfInBounds_toArray, List.set_cons_zero, List.set_cons_succ, i64_w, i32_w]
                           rfl
                          refine pure_ (i := 10) (N := some 124) (v := ?_) (a' := ?_) #[true, true, true, true, false, true, false, false, false, true, true, false, false, false] rfl rfl (any_of HT_.out (by kernel_rfl)) (fun _ _ _ h => h) (Or.inl ⟨by rfl, ?_⟩) ?_ ?_
                          rotate_left
                          ·
                           intro w'
                           go_simp
                           with_reducible rfl
                          rotate_left
                          ·
                           simp only [Act.put, List.setIfInBounds_toArray, List.set_cons_zero, List.set_cons_succ, i64_w, i32_w]
                           rfl
                          refine pure_ (i := 11) (N := some 125) (v := ?_) (a' := ?_) #[true, true, true, true, false, true, false, false, false, true, true, true, false, false] rfl rfl (any_of HT_.out (by kernel_rfl)) (fun _ _ _ h => h) (Or.inl ⟨by rfl, ?_⟩) ?_ ?_
                          rotate_left
                          ·
                           intro w'
                           go_simp
                           with_reducible rfl
                          rotate_left
                          ·
                           simp only [Act.put, List.setIfInBounds_toArray, List.set_cons_zero, List.set_cons_succ, i64_w, i32_w]
                           rfl
                          refine take_ (i := 4) (N := some 118) (v := ?_) (a' := ?_) #[true, true, true, true, true, true, false, false, false, true, true, true, false, false] rfl rfl (take_ofW HT_.out HW_.out (by kernel_rfl)) (fun _ _ _ h => h) (Or.inl ⟨by rfl, ?_⟩) hHeld ?_ ?_
                          rotate_left
                          ·
                           rintro w' ⟨s0, s1, s2, s3, s4, s5, s6⟩
                           go_simp
                           with_reducible rfl
                          rotate_left
                          ·
                           simp only [Act.put, List.setIfInBounds_toArray, List.set_cons_zero, List.set_cons_succ, i64_w, i32_w]
                           rfl
                          refine pure_ (i := 6) (N := some 120) (v := ?_) (a' := ?_) #[true, true, true, true, true, true, true, false, false, true, true, true, false, false] rfl rfl (any_of HT_.out (by kernel_rfl)) (fun _ _ _ h => h) (Or.inl ⟨by rfl, ?_⟩) ?_ ?_
                          rotate_left
                          ·
                           intro w'
                           go_simp
                           with_reducible rfl
                          rotate_left
                          ·
                           simp only [Act.put, List.setIfInBounds_toArray, List.set_cons_zero, List.set_cons_succ, i64_w, i32_w]
                           rfl
                          refine pure_ (i := 7) (N := some 121) (v := ?_) (a' := ?_) #[true, true, true, true, true, true, true, true, false, true, true, true, false, false] rfl rfl (any_of HT_.out (by kernel_rfl)) (fun _ _ _ h => h) (Or.inl ⟨by rfl, ?_⟩) ?_ ?_
                          rotate_left
                          ·
                           intro w'
                           go_simp
                           with_reducible rfl
                          rotate_left
                          ·
                           simp only [Act.put, List.setIfInBounds_toArray, List.set_cons_zero, List.set_cons_succ, i64_w, i32_w]
                           rfl
                          refine take_ (i := 8) (N := some 122) (v := ?_) (a' := ?_) #[true, true, true, true, true, true, true, true, true, true, true, true, false, false] rfl rfl (take_ofW HT_.out HW_.out (by kernel_rfl)) (fun _ _ _ h => h) (Or.inl ⟨by rfl, ?_⟩) hHeld ?_ ?_
                          rotate_left
                          ·
                           rintro w' ⟨s0, s1, s2, s3, s4, s5, s6⟩
                           go_simp
                           with_reducible rfl
                          rotate_left
                          ·
                           simp only [Act.put, List.setIfInBounds_toArray, List.set_cons_zero, List.set_cons_succ, i64_w, i32_w]
                           rfl
                          refine take_ (i := 12) (N := some 126) (v := ?_) (a' := ?_) #[true, true, true, true, true, true, true, true, true, true, true, true, true, false] rfl rfl (take_ofW HT_.out HW_.out (by kernel_rfl)) (fun _ _ _ h => h) (Or.inl ⟨by rfl, ?_⟩) hHeld ?_ ?_
                          rotate_left
                          ·
                           rintro w' ⟨s0, s1, s2, s3, s4, s5, s6⟩
                           go_simp
                           with_reducible rfl
                          rotate_left
                          ·
                           simp only [Act.put, List.setIfInBounds_toArray, List.set_cons_zero, List.set_cons_succ, i64_w, i32_w]
                           rfl
                          refine pure_ (i := 13) (N := some 127) (v := ?_) (a' := ?_) #[true, true, true, true, true, true, true, true, true, true, true, true, true, true] rfl rfl (any_of HT_.out (by kernel_rfl)) (fun _ _ _ h => h) (Or.inl ⟨by rfl, ?_⟩) ?_ ?_
                          rotate_left
                          ·
                           intro w'
                           go_simp
                           with_reducible rfl
                          rotate_left
                          ·
                           simp only [Act.put, List.setIfInBounds_toArray, List.set_cons_zero, List.set_cons_succ, i64_w, i32_w]
                           rfl
                          refine done_ (done_of HT_.out (by kernel_rfl)) ?_
                          try go_wp2
                          have n0_ := Aside0.mk (Kd.R_drew HO_7.out)
                          have n1_ := Aside0.mk (Kd.S_drew HO_11.out)
                          have n2_ := Aside0.mk (Kd.R_drew HO_428003.out)
                          have n3_ := Aside0.mk (blk_drew BK403.out)
                          have n4_ := Aside0.mk (blk_drew BK413.out)
                          have n5_ := Aside0.mk (blk_drew BK427.out)
                          have n6_ := Aside0.mk (below_drew1 HB.out)
                          clear HO_7
                          clear HO_11
                          clear HO_428003
                          clear BK403
                          clear BK413
                          clear BK427
                          clear HB
                          have HO_7 := n0_
                          have HO_11 := n1_
                          have HO_428003 := n2_
                          have BK403 := n3_
                          have BK413 := n4_
                          have BK427 := n5_
                          have HB := n6_
                          clear n0_ n1_ n2_ n3_ n4_ n5_ n6_
                          have p432 : 0 ≤ (x12_5 : Int) := of_decide_eq_true (by first | (with_reducible assumption) | assumption)
                          have q432 : x12_5 < (l0.length : Int) := of_decide_eq_true (by first | (with_reducible assumption) | assumption)
                          obtain ⟨ad432, A432_3, c432_3, e432, hx432_0, hx432_1, hx432_2, hx432_3, hl432_3, hi432_3⟩ := at_T62 HR0.out x12_5 p432 q432
                          have hw432_3 := hx432_3
                          have hw432_2 := hx432_2
                          have hw432_1 := hx432_1
                          have hw432_0 := hx432_0
                          obtain rfl : ad428 = ad432 := (by injection e432)
                          replace hx432_0 := (HB.out.cell (World.block_lt_of_cell? w _ hx432_0)).trans hx432_0
                          replace hx432_1 := (HB.out.cell (World.block_lt_of_cell? w _ hx432_1)).trans hx432_1
                          replace hx432_2 := (HB.out.cell (World.block_lt_of_cell? w _ hx432_2)).trans hx432_2
                          replace hx432_3 := (HB.out.cell (World.block_lt_of_cell? w _ hx432_3)).trans hx432_3
                          have HR432_3 := Aside0.mk hi432_3
                          have HC432_3 := Aside0.mk hl432_3
                          clear hi432_3 hl432_3
                          replace p432 := eq_true p432
                          replace q432 := eq_true q432
                          have p433 : 0 ≤ (x14_6 : Int) := of_decide_eq_true (by first | (with_reducible assumption) | assumption)
                          have q433 : x14_6 < (((rd_T62 l0 x12_5).f3).length : Int) := of_decide_eq_true (by first | (with_reducible assumption) | assumption)
                          obtain ⟨ad433, e433, hx433_0, hx433_1⟩ := at_T64 HR432_3.out x14_6 p433 q433
                          have hw433_1 := hx433_1
                          have hw433_0 := hx433_0
                          cases e433
                          replace hx433_0 := (HB.out.cell (World.block_lt_of_cell? w _ hx433_0)).trans hx433_0
                          replace hx433_1 := (HB.out.cell (World.block_lt_of_cell? w _ hx433_1)).trans hx433_1
                          replace p433 := eq_true p433
                          replace q433 := eq_true q433
                          refine start_ (n := 14) (S := fun w' => w'.cell? ⟨gb427, 0, none⟩ = some (.int .i64 0) ∧ w'.cell? ⟨gb427, 1, none⟩ = some (.int .i64 0) ∧ w'.cell? ⟨gb427, 2, none⟩ = some (.int .i64 0) ∧ w'.cell? ⟨gb427, 3, none⟩ = some (u428003) ∧ w'.cell? (ad428.add ((x12_5).toNat * 4)) = some (.int .i64 ((rd_T62 l0 x12_5).f0)) ∧ w'.cell? ⟨(ad428.add ((x12_5).toNat * 4)).block, (ad428.add ((x12_5).toNat * 4)).off + 1, none⟩ = some (.int .i64 ((rd_T62 l0 x12_5).f1)) ∧ w'.cell? ⟨(ad428.add ((x12_5).toNat * 4)).block, (ad428.add ((x12_5).toNat * 4)).off + 2, none⟩ = some (.int .i64 ((rd_T62 l0 x12_5).f2)) ∧ w'.cell? ⟨(ad428.add ((x12_5).toNat * 4)).block, (ad428.add ((x12_5).toNat * 4)).off + 3, none⟩ = some (.slice (some ad433) ((rd_T62 l0 x12_5).f3).length c432_3) ∧ w'.cell? (ad433.add ((x14_6).toNat * 2)) = some (.int .i64 ((rd_T64 ((rd_T62 l0 x12_5).f3) x14_6).f0)) ∧ w'.cell? ⟨(ad433.add ((x14_6).toNat * 2)).block, (ad433.add ((x14_6).toNat * 2)).off + 1, none⟩ = some (.int .i64 ((rd_T64 ((rd_T62 l0 x12_5).f3) x14_6).f1))) (ds := [13]) #[false, false, false, false, false, false, false, false, false, false, false, false, false, false] (by kernel_rfl) rfl rfl ⟨(blk_cell BK427.out 0).trans rfl, (blk_cell BK427.out 1).trans rfl, (blk_cell BK427.out 2).trans rfl, (blk_cell BK427.out 3).trans rfl, ((HB.out.cell (World.block_lt_of_cell? w _ hw432_0)).trans hw432_0), ((HB.out.cell (World.block_lt_of_cell? w _ hw432_1)).trans hw432_1), ((HB.out.cell (World.block_lt_of_cell? w _ hw432_2)).trans hw432_2), ((HB.out.cell (World.block_lt_of_cell? w _ hw432_3)).trans hw432_3), ((HB.out.cell (World.block_lt_of_cell? w _ hw433_0)).trans hw433_0), ((HB.out.cell (World.block_lt_of_cell? w _ hw433_1)).trans hw433_1)⟩ (fun hHeld => ?_); refine with_tabW linkhouselaw7_FlowDominatorsSeparate.tab20 linkhouselaw7_FlowDominatorsSeparate.bits20 (fun HT_ HW_ => ?_)
                          generalize w68.drew = w70 at HO_7 HO_11 HO_428003 BK403 BK413 BK427 HB HR432_3 hx432_0 hx432_1 hx432_2 hx432_3 hx433_0 hx433_1 hHeld ⊢
                          refine pure_ (i := 0) (N := some 128) (v := ?_) (a' := ?_) #[true, false, false, false, false, false, false, false, false, false, false, false, false, false] rfl rfl (any_of HT_.out (by kernel_rfl)) (fun _ _ _ h => h) (Or.inl ⟨by rfl, ?_⟩) ?_ ?_
                          rotate_left
                          ·
                           intro w'
                           go_simp
                           with_reducible rfl
                          rotate_left
                          ·
                           simp only [Act.put, List.setIfInBounds_toArray, List.set_cons_zero, List.set_cons_succ, i64_w, i32_w]
                           rfl
                          refine pure_ (i := 2) (N := some 130) (v := ?_) (a' := ?_) #[true, false, true, false, false, false, false, false, false, false, false, false, false, false] rfl rfl (any_of HT_.out (by kernel_rfl)) (fun _ _ _ h => h) (Or.inl ⟨by rfl, ?_⟩) ?_ ?_
                          rotate_left
                          ·
                           intro w'
                           go_simp
                           with_reducible rfl
                          rotate_left
                          ·
                           simp only [Act.put, List.setIfInBounds_toArray, List.set_cons_zero, List.set_cons_succ, i64_w, i32_w]
                           rfl
                          refine pure_ (i := 3) (N := some 131) (v := ?_) (a' := ?_) #[true, false, true, true, false, false, false, false, false, false, false, false, false, false] rfl rfl (any_of HT_.out (by kernel_rfl)) (fun _ _ _ h => h) (Or.inl ⟨by rfl, ?_⟩) ?_ ?_
                          rotate_left
                          ·
                           intro w'
                           go_simp
                           with_reducible rfl
                          rotate_left
                          ·
                           simp only [Act.put, List.setIfInBounds_toArray, List.set_cons_zero, List.set_cons_succ, i64_w, i32_w]
                           rfl
                          refine pure_ (i := 4) (N := some 132) (v := ?_) (a' := ?_) #[true, false, true, true, true, false, false, false, false, false, false, false, false, false] rfl rfl (any_of HT_.out (by kernel_rfl)) (fun _ _ _ h => h) (Or.inl ⟨by rfl, ?_⟩) ?_ ?_
                          rotate_left
                          ·
                           intro w'
                           go_simp
                           with_reducible rfl
                          rotate_left
                          ·
                           simp only [Act.put, List.setIfInBounds_toArray, List.set_cons_zero, List.set_cons_succ, i64_w, i32_w]
                           rfl
                          refine pure_ (i := 5) (N := some 133) (v := ?_) (a' := ?_) #[true, false, true, true, true, true, false, false, false, false, false, false, false, false] rfl rfl (any_of HT_.out (by kernel_rfl)) (fun _ _ _ h => h) (Or.inl ⟨by rfl, ?_⟩) ?_ ?_
                          rotate_left
                          ·
                           intro w'
                           go_simp
                           with_reducible rfl
                          rotate_left
                          ·
                           simp only [Act.put, List.setIfInBounds_toArray, List.set_cons_zero, List.set_cons_succ, i64_w, i32_w]
                           rfl
                          refine pure_ (i := 7) (N := some 135) (v := ?_) (a' := ?_) #[true, false, true, true, true, true, false, true, false, false, false, false, false, false] rfl rfl (any_of HT_.out (by kernel_rfl)) (fun _ _ _ h => h) (Or.inl ⟨by rfl, ?_⟩) ?_ ?_
                          rotate_left
                          ·
                           intro w'
                           go_simp
                           with_reducible rfl
                          rotate_left
                          ·
                           simp only [Act.put, List.setIfInBounds_toArray, List.set_cons_zero, List.set_cons_succ, i64_w, i32_w]
                           rfl
                          refine take_ (i := 1) (N := some 129) (v := ?_) (a' := ?_) #[true, true, true, true, true, true, false, true, false, false, false, false, false, false] rfl rfl (take_ofW HT_.out HW_.out (by kernel_rfl)) (fun _ _ _ h => h) (Or.inl ⟨by rfl, ?_⟩) hHeld ?_ ?_
                          rotate_left
                          ·
                           rintro w' ⟨s0, s1, s2, s3, s4, s5, s6, s7, s8, s9⟩
                           go_simp
                           with_reducible rfl
                          rotate_left
                          ·
                           simp only [Act.put, List.setIfInBounds_toArray, List.set_cons_zero, List.set_cons_succ, i64_w, i32_w]
                           rfl
                          refine take_ (i := 6) (N := some 134) (v := ?_) (a' := ?_) #[true, true, true, true, true, true, true, true, false, false, false, false, false, false] rfl rfl (take_ofW HT_.out HW_.out (by kernel_rfl)) (fun _ _ _ h => h) (Or.inl ⟨by rfl, ?_⟩) hHeld ?_ ?_
                          rotate_left
                          ·
                           rintro w' ⟨s0, s1, s2, s3, s4, s5, s6, s7, s8, s9⟩
                           go_simp
                           with_reducible rfl
                          rotate_left
                          ·
                           simp only [Act.put, List.setIfInBounds_toArray, List.set_cons_zero, List.set_cons_succ, i64_w, i32_w]
                           rfl
                          refine pure_ (i := 8) (N := some 136) (v := ?_) (a' := ?_) #[true, true, true, true, true, true, true, true, true, false, false, false, false, false] rfl rfl (any_of HT_.out (by kernel_rfl)) (fun _ _ _ h => h) (Or.inl ⟨by rfl, ?_⟩) ?_ ?_
                          rotate_left
                          ·
                           intro w'
                           go_simp
                           with_reducible rfl
                          rotate_left
                          ·
                           simp only [Act.put, List.setIfInBounds_toArray, List.set_cons_zero, List.set_cons_succ, i64_w, i32_w]
                           rfl
                          refine take_ (i := 9) (N := some 137) (v := ?_) (a' := ?_) #[true, true, true, true, true, true, true, true, true, true, false, false, false, false] rfl rfl (take_ofW HT_.out HW_.out (by kernel_rfl)) (fun _ _ _ h => h) (Or.inl ⟨by rfl, ?_⟩) hHeld ?_ ?_
                          rotate_left
                          ·
                           rintro w' ⟨s0, s1, s2, s3, s4, s5, s6, s7, s8, s9⟩
                           go_simp
                           with_reducible rfl
                          rotate_left
                          ·
                           simp only [Act.put, List.setIfInBounds_toArray, List.set_cons_zero, List.set_cons_succ, i64_w, i32_w]
                           rfl
                          refine one_ (i := 10) (N := some 138) #[true, true, true, true, true, true, true, true, true, true, true, false, false, false] rfl rfl (one_of HT_.out (by kernel_rfl)) (by decide) (fun K hK => ?_)
                          refine value_ (w1 := ?_) (v := ?_) (by rfl) rfl ?_ ?_
                          rotate_left 2
                          ·
                           go_simp
                           constructor
                           ·
                            rfl
                           ·
                            rfl
                          refine hK.out _ _ ⟨(blk_cell (blk_alloc BK427.out _) 0).trans rfl, (blk_cell (blk_alloc BK427.out _) 1).trans rfl, (blk_cell (blk_alloc BK427.out _) 2).trans rfl, (blk_cell (blk_alloc BK427.out _) 3).trans rfl, (World.cell?_alloc_lt _ _ _ (World.block_lt_of_cell? _ _ (((HB.out.cell (World.block_lt_of_cell? w _ hw432_0)).trans hw432_0)))).trans (((HB.out.cell (World.block_lt_of_cell? w _ hw432_0)).trans hw432_0)), (World.cell?_alloc_lt _ _ _ (World.block_lt_of_cell? _ _ (((HB.out.cell (World.block_lt_of_cell? w _ hw432_1)).trans hw432_1)))).trans (((HB.out.cell (World.block_lt_of_cell? w _ hw432_1)).trans hw432_1)), (World.cell?_alloc_lt _ _ _ (World.block_lt_of_cell? _ _ (((HB.out.cell (World.block_lt_of_cell? w _ hw432_2)).trans hw432_2)))).trans (((HB.out.cell (World.block_lt_of_cell? w _ hw432_2)).trans hw432_2)), (World.cell?_alloc_lt _ _ _ (World.block_lt_of_cell? _ _ (((HB.out.cell (World.block_lt_of_cell? w _ hw432_3)).trans hw432_3)))).trans (((HB.out.cell (World.block_lt_of_cell? w _ hw432_3)).trans hw432_3)), (World.cell?_alloc_lt _ _ _ (World.block_lt_of_cell? _ _ (((HB.out.cell (World.block_lt_of_cell? w _ hw433_0)).trans hw433_0)))).trans (((HB.out.cell (World.block_lt_of_cell? w _ hw433_0)).trans hw433_0)), (World.cell?_alloc_lt _ _ _ (World.block_lt_of_cell? _ _ (((HB.out.cell (World.block_lt_of_cell? w _ hw433_1)).trans hw433_1)))).trans (((HB.out.cell (World.block_lt_of_cell? w _ hw433_1)).trans hw433_1))⟩ (fun hHeld => ?_)
                          clear hK K
                          refine norm_ (a' := ?_) ?_ ?_
                          rotate_left
                          ·
                           show Act.put _ (some 138) _ = _
                           simp only [Act.put, List.setIfInBounds_toArray, List.set_cons_zero, List.set_cons_succ, i64_w, i32_w]
                           rfl
                          refine one_ (i := 11) (N := some 139) #[true, true, true, true, true, true, true, true, true, true, true, true, false, false] rfl rfl (one_of HT_.out (by kernel_rfl)) (by decide) (fun K hK => ?_)
                          refine Kd.R_append_step k64 (w0 := w) w.heap.size (by rfl) (.tmp 129) (.tmp 138) 60 64 (.agg #[(.int .i64 0), (.int .i64 0)]) 16 rfl Try.underlying60 info64 rfl (by decide) (by omega) u428003 x428003_6 (⟨(rd_T64 ((rd_T62 l0 x12_5).f3) x14_6).f0, (rd_T64 ((rd_T62 l0 x12_5).f3) x14_6).f1⟩ : S64) [.int .i64 ((rd_T64 ((rd_T62 l0 x12_5).f3) x14_6).f0), .int .i64 ((rd_T64 ((rd_T62 l0 x12_5).f3) x14_6).f1)] (fun _ => True) (fun _ => False) rfl rfl ?aP (fun _ hk => hk.elim) ?aF ?aO ?aB ?aS ?aL ?_
                          (case aP => exact k64_mkM _ _ _ (⟨(rd_T64 ((rd_T62 l0 x12_5).f3) x14_6).f0, (rd_T64 ((rd_T62 l0 x12_5).f3) x14_6).f1⟩ : S64))
                          (case aB => exact (bw_ HB))
                          (case aF => exact (fun _ _ => trivial))
                          (case aO => exact (by (with_reducible repeat (first | apply Kd.R_alloc | apply Kd.R_drewN | apply Kd.R_drew)); exact HO_428003.out))
                          (case aS => exact (below_size (bw_ HB)))
                          (case aL => have := LMc67.out; omega)
                          intro v435 w71 ho hb hg hat
                          rw [← Ny434.out] at ho
                          have n0_ := Aside0.mk (Kd.R_over' (by (with_reducible repeat (first | apply Kd.R_alloc | apply Kd.R_drewN | apply Kd.R_drew)); exact HO_7.out) (Kd.R_typed (by (with_reducible repeat (first | apply Kd.R_alloc | apply Kd.R_drewN | apply Kd.R_drew)); exact HO_428003.out)) (by decide) hg)
                          have n1_ := Aside0.mk (Kd.S_after (ok := (fun k_ => k_ ≠ gb427)) (by (with_reducible repeat (first | apply Kd.S_alloc | apply Kd.S_drewN | apply Kd.S_drew)); exact Kd.S_mono HO_11.out (fun _ hk => ⟨hk.2, hk.1⟩)) hg hat)
                          have n2_ := Aside0.mk (blk_grown (g := gb403) (o := .cells #[.int .i64 t401, .int .i64 t402] 28 (0, 0)) (bk_ BK403) hg (Kd.R_ne HO_428003.out BK403.out (by decide)))
                          have n3_ := Aside0.mk (blk_grown (g := gb413) (o := .cells #[.int .i64 t411, .int .i64 t412] 28 (0, 0)) (bk_ BK413) hg (Kd.R_ne HO_428003.out BK413.out (by decide)))
                          have n4_ := Aside0.mk (blk_grown (g := gb427) (o := .cells #[.int .i64 0, .int .i64 0, .int .i64 0, u428003] 62 (0, 0)) (bk_ BK427) hg (Kd.R_ne HO_428003.out BK427.out (by decide)))
                          have n5_ := Aside0.mk (hb)
                          have n6_ := Aside0.mk (ho)
                          clear HO_7
                          clear HO_11
                          clear BK403
                          clear BK413
                          clear BK427
                          clear HB
                          clear HO_428003
                          have HO_7 := n0_
                          have HO_11 := n1_
                          have BK403 := n2_
                          have BK413 := n3_
                          have BK427 := n4_
                          have HB := n5_
                          have HO436 := n6_
                          clear n0_ n1_ n2_ n3_ n4_ n5_ n6_
                          clear ho hb hg hat
                          obtain ⟨Ao72, co72, eo72⟩ := Kd.R_slice HO436.out
                          (first | subst eo72 | (injection eo72 with f1_ f2_ f3_; have f4_ := f1_.symm; have f5_ := f3_.symm; clear f1_ f2_ f3_; subst f4_; subst f5_))
                          refine hK.out _ _ ⟨(blk_cell BK427.out 0).trans rfl, (blk_cell BK427.out 1).trans rfl, (blk_cell BK427.out 2).trans rfl, (blk_cell BK427.out 3).trans rfl, ((HB.out.cell (World.block_lt_of_cell? w _ hw432_0)).trans hw432_0), ((HB.out.cell (World.block_lt_of_cell? w _ hw432_1)).trans hw432_1), ((HB.out.cell (World.block_lt_of_cell? w _ hw432_2)).trans hw432_2), ((HB.out.cell (World.block_lt_of_cell? w _ hw432_3)).trans hw432_3), ((HB.out.cell (World.block_lt_of_cell? w _ hw433_0)).trans hw433_0), ((HB.out.cell (World.block_lt_of_cell? w _ hw433_1)).trans hw433_1)⟩ (fun hHeld => ?_)
                          clear hK K
                          refine norm_ (a' := ?_) ?_ ?_
                          rotate_left
                          ·
                           show Act.put _ (some 139) _ = _
                           simp only [Act.put, List.setIfInBounds_toArray, List.set_cons_zero, List.set_cons_succ, i64_w, i32_w]
                           rfl
                          refine pure_ (i := 12) (N := some 140) (v := ?_) (a' := ?_) #[true, true, true, true, true, true, true, true, true, true, true, true, true, false] rfl rfl (any_of HT_.out (by kernel_rfl)) (fun _ _ _ h => h) (Or.inl ⟨by rfl, ?_⟩) ?_ ?_
                          rotate_left
                          ·
                           intro w'
                           go_simp
                           with_reducible rfl
                          rotate_left
                          ·
                           simp only [Act.put, List.setIfInBounds_toArray, List.set_cons_zero, List.set_cons_succ, i64_w, i32_w]
                           rfl
                          refine last_ (i := 13) (N := none) #[true, true, true, true, true, true, true, true, true, true, true, true, true, true] rfl rfl (one_of HT_.out (by kernel_rfl)) (by decide) (fun K hK => ?_)
                          have hs73 : w71.cell? ⟨gb427, 3, none⟩ = some (u428003) := (blk_cell BK427.out 3).trans rfl
                          have hfs73 := blk_frozen BK427.out 3
                          have hns73_0 := NB403_427.out
                          have hns73_1 := NB413_427.out
                          have hms73_0 := NB427_403.out
                          have hms73_1 := NB427_413.out
                          refine skip_ (w1 := ?_) (by rfl) rfl ?_ ?_
                          rotate_left
                          ·
                           go_simp
                           rfl
                          refine hK.out _ _ ?_
                          clear hK K
                          refine done_ (done_of HT_.out (by kernel_rfl)) ?_
                          try go_wp2
                          go_roundg k6
                          case measure => have := HJ4.out; have := HJ15.out; have := HJ24.out; have := HJ44.out; have := HK5.out; have := HK6.out; omega
                          case rel => exact ⟨(wrap64 (x14_6 + 1)), (y434), (.slice Ao72 y434.length co72), rs_, H', ⟨by have := HJ4.out; have := HJ15.out; have := HJ24.out; have := HJ44.out; have := HK5.out; have := HK6.out; omega⟩, ⟨by (with_reducible repeat (first | apply Kd.R_alloc | apply Kd.R_drewN | apply Kd.R_drew)); exact Kd.R_mono (Kd.R_far (p := ⟨gb427, 3, none⟩) (Kd.R_types HO_7.out BK427.out (by decide)) (fun _ hk => hk.2) (.slice Ao72 y434.length co72)) (fun _ hk => trivial)⟩, ⟨by (with_reducible repeat (first | apply Kd.S_alloc | apply Kd.S_drewN | apply Kd.S_drew)); exact Kd.S_mono (Kd.S_far (p := ⟨gb427, 3, none⟩) (Kd.S_mono HO_11.out (fun k_ hk => (⟨hk, hk.1⟩ : _ ∧ k_ ≠ gb427))) (fun _ hk => hk.2) (.slice Ao72 y434.length co72)) (fun _ hk => ⟨hk.1.2, hk.1.1⟩)⟩, ⟨by (with_reducible repeat (first | apply Kd.R_alloc | apply Kd.R_drewN | apply Kd.R_drew)); exact Kd.R_mono (Kd.R_far (p := ⟨gb427, 3, none⟩) (Kd.R_types HO436.out BK427.out (by decide)) (fun _ hk => hk.2) (.slice Ao72 y434.length co72)) (fun _ hk => trivial)⟩, ⟨bk_ BK403⟩, ⟨bk_ BK413⟩, ⟨by (with_reducible repeat (first | refine blk_drewN ?_ _ | refine blk_drew ?_ | refine blk_alloc ?_ _)); refine blk_put (cs := #[.int .i64 0, .int .i64 0, .int .i64 0, u428003]) ?_ 3 _ rfl; (with_reducible repeat (first | refine blk_drewN ?_ _ | refine blk_drew ?_ | refine blk_alloc ?_ _)); exact BK427.out⟩, ⟨bw_ HB⟩⟩
                         ·
                          rw [if_neg c67] at H
                          exact absurd H (by simp)
                       ·
                        rw [if_neg c63] at H
                        exact absurd H (by simp)
                      ·
                       rw [if_neg c62] at H
                       exact absurd H (by simp)
                     ·
                      rw [if_neg c61] at H
                      exact absurd H (by simp)
                    ·
                     rw [if_neg c60] at H
                     have c60b0 : decide (x14_6 < (((rd_T62 l0 x12_5).f3).length : Int)) = false := decide_eq_false c60
                     clear c60
                     by_cases c74 : x11_5.length < 2932031007402
                     ·
                      rw [if_pos c74] at H
                      have LMc74 := Aside0.mk c74
                      clear c74
                      obtain ⟨y437, hy437⟩ : ∃ y_ : List (S62), y_ = (x11_5 ++ [(⟨0, 0, 0, x428003_6⟩ : S62)]) := ⟨_, rfl⟩
                      replace H : (linkhouselaw7_FlowDominatorsSeparate.l0 k6 l0 a1 a2 t398 y437 (wrap64 (x12_5 + 1))) = some r := by first | (rw [hy437]; with_reducible exact H) | (have H2_ := (Option.bind_some _ _).symm.trans H; rw [hy437]; with_reducible exact H2_) | (have H2_ := (Option.bind_some _ _).symm.trans H; with_reducible exact H2_) | with_reducible exact H | (rw [hy437]; exact H) | exact H
                      have Ny437 := Aside0.mk hy437
                      clear hy437
                      have H' := Aside0.mk H
                      clear H
                      have p428 : 0 ≤ (x12_5 : Int) := of_decide_eq_true (by first | (with_reducible assumption) | assumption)
                      have q428 : x12_5 < (l0.length : Int) := of_decide_eq_true (by first | (with_reducible assumption) | assumption)
                      obtain ⟨ad428, A428_3, c428_3, e428, hx428_0, hx428_1, hx428_2, hx428_3, hl428_3, hi428_3⟩ := at_T62 HR0.out x12_5 p428 q428
                      cases e428
                      replace hx428_0 := (HB.out.cell (World.block_lt_of_cell? w _ hx428_0)).trans hx428_0
                      replace hx428_1 := (HB.out.cell (World.block_lt_of_cell? w _ hx428_1)).trans hx428_1
                      replace hx428_2 := (HB.out.cell (World.block_lt_of_cell? w _ hx428_2)).trans hx428_2
                      replace hx428_3 := (HB.out.cell (World.block_lt_of_cell? w _ hx428_3)).trans hx428_3
                      have HR428_3 := Aside0.mk hi428_3
                      have HC428_3 := Aside0.mk hl428_3
                      clear hi428_3 hl428_3
                      replace p428 := eq_true p428
                      replace q428 := eq_true q428
                      have hnb75 := NB427_403.out
                      have hnc75 := NB403_427.out
                      have hnb76 := NB427_413.out
                      have hnc76 := NB413_427.out
                      obtain ⟨hcz77_0, hcz77_1, hcz77_2, hcz77_3, hfz77_0, hfz77_1, hfz77_2, hfz77_3⟩ := cz4_ BK427
                      obtain ⟨Ao79, co79, eo79⟩ := Kd.R_slice HO_428003.out
                      subst eo79
                      go_wp2_with (first | ((with_reducible refine gate_builtin (b := .append) (xs := #[.tmp 141, .tmp 143]) rfl ?_); (try (refine gate_guard (by rfl) ?_; dsimp only)); at_builtin; refine Kd.S_append k62 (w0 := w) w.heap.size rfl (.tmp 141) (.tmp 143) 42 62 (.agg #[(.int .i64 0), (.int .i64 0), (.int .i64 0), (.slice none 0 0)]) 48 rfl Try.underlying42 info62 rfl (by decide) (by omega) u11 x11_5 (⟨0, 0, 0, x428003_6⟩ : S62) [.int .i64 0, .int .i64 0, .int .i64 0, .slice Ao79 x428003_6.length co79] (fun k_ => k_ ≠ gb427) (fun k_ => some k_ = (.slice Ao79 x428003_6.length co79 : Value).ownBlock) rfl rfl ?aP (fun k_ hk_ => ((Kd.R_mono (ok' := fun k_ => ((fun k_ => k_ ≠ gb427)) k_ ∧ some k_ ≠ (u11 : Value).ownBlock) (Kd.R_types (Kd.R_apart' (HO_428003.out) (Kd.S_typed HO_11.out) (by decide)) BK427.out (by decide)) (fun k_ hk => ⟨hk.2, hk.1.2⟩))).1 k_ hk_.symm) ?aF ?aO ?aB ?aS ?aL ?_; (case aP => exact k62_mkM _ _ _ (⟨0, 0, 0, x428003_6⟩ : S62) (Kd.R_mono (Kd.R_tight rfl (Kd.R_mono (ok' := fun k_ => ((fun k_ => k_ ≠ gb427)) k_ ∧ some k_ ≠ (u11 : Value).ownBlock) (Kd.R_types (Kd.R_apart' (HO_428003.out) (Kd.S_typed HO_11.out) (by decide)) BK427.out (by decide)) (fun k_ hk => ⟨hk.2, hk.1.2⟩))) (fun _ h_ => h_))); (case aB => exact (bw_ HB)); (case aF => exact (fun k_ hk => Kd.freshB (g := gb427) (o := .cells #[.int .i64 0, .int .i64 0, .int .i64 0, .slice Ao79 x428003_6.length co79] 62 (0, 0)) (bk_ BK427) k_ hk)); (case aO => exact (by (with_reducible repeat (first | apply Kd.S_alloc | apply Kd.S_drewN | apply Kd.S_drew)); exact Kd.S_mono HO_11.out (fun k_ hk => ⟨hk.2, fun e_ => hk.1 e_⟩))); (case aS => exact (below_size (bw_ HB))); (case aL => have := LMc74.out; omega); intro v438 w78 ho hb hg hat; rw [← Ny437.out] at ho; have n0_ := Aside0.mk (Kd.R_over' (by (with_reducible repeat (first | apply Kd.R_alloc | apply Kd.R_drewN | apply Kd.R_drew)); exact HO_7.out) (Kd.S_typed (by (with_reducible repeat (first | apply Kd.S_alloc | apply Kd.S_drewN | apply Kd.S_drew)); exact HO_11.out)) (by decide) hg); have n1_ := Aside0.mk (blk_grown (g := gb403) (o := .cells #[.int .i64 t401, .int .i64 t402] 28 (0, 0)) (bk_ BK403) hg (Kd.S_ne HO_11.out BK403.out (by decide))); have n2_ := Aside0.mk (blk_grown (g := gb413) (o := .cells #[.int .i64 t411, .int .i64 t412] 28 (0, 0)) (bk_ BK413) hg (Kd.S_ne HO_11.out BK413.out (by decide))); have n3_ := Aside0.mk (blk_grown (g := gb427) (o := .cells #[.int .i64 0, .int .i64 0, .int .i64 0, .slice Ao79 x428003_6.length co79] 62 (0, 0)) (bk_ BK427) hg (Kd.S_away HO_11.out (fun _ hk => hk.2))); have n4_ := Aside0.mk (hb); have n5_ := Aside0.mk (ho); clear HO_7; clear BK403; clear BK413; clear BK427; clear HB; clear HO_11; clear HO_428003; have HO_7 := n0_; have BK403 := n1_; have BK413 := n2_; have BK427 := n3_; have HB := n4_; have HO439 := n5_; clear n0_ n1_ n2_ n3_ n4_ n5_; clear ho hb hg hat))
                      go_roundg k6
                      case measure => have := HJ4.out; have := HJ15.out; have := HJ24.out; have := HJ44.out; have := HK5.out; have := HK6.out; omega
                      case rel => exact ⟨(y437), (wrap64 (x12_5 + 1)), rs_, H', ⟨by have := HJ4.out; have := HJ15.out; have := HJ24.out; have := HJ44.out; have := HK5.out; have := HK6.out; omega⟩, ⟨by (with_reducible repeat (first | apply Kd.R_alloc | apply Kd.R_drewN | apply Kd.R_drew)); exact HO_7.out⟩, ⟨by (with_reducible repeat (first | apply Kd.S_alloc | apply Kd.S_drewN | apply Kd.S_drew)); exact Kd.S_mono HO439.out (fun _ hk => trivial)⟩, ⟨bk_ BK403⟩, ⟨bk_ BK413⟩, ⟨bw_ HB⟩⟩
                     ·
                      rw [if_neg c74] at H
                      exact absurd H (by simp)
                   ·
                    rw [if_neg c59] at H
                    exact absurd H (by simp)
                  ·
                   rw [if_neg c58] at H
                   exact absurd H (by simp)
               ·
                rw [if_neg c56] at H
                have c56b0 : decide (x12_5 < (l0.length : Int)) = false := decide_eq_false c56
                clear c56
                replace H := Option.bind_eq_some_iff.mp H
                obtain ⟨⟨t419, t422, t423⟩, A800, H⟩ := H
                replace H : (if t422 = 0 then (if (t419.length : Int) = (l0.length : Int) then (if 0 ≤ a2 then (if a2 < (t419.length : Int) then (if rdOf false t419 a2 = true then (some false) else ((linkhouselaw7_crossed.f k5).bind fun t426 => (some t426))) else (none)) else (none)) else (some false)) else (some false)) = some r := H
                have A80 := Aside0.mk A800
                clear A800
                by_cases c81 : t422 = 0
                ·
                 rw [if_pos c81] at H
                 have c81b0 : (t422 == 0) = true := beq_iff_eq.mpr c81
                 have c81b1 : (t422 != 0) = false := bne_eq_false_iff_eq.mpr c81
                 clear c81
                 by_cases c82 : (t419.length : Int) = (l0.length : Int)
                 ·
                  rw [if_pos c82] at H
                  have c82b0 : ((t419.length : Int) == (l0.length : Int)) = true := beq_iff_eq.mpr c82
                  have c82b1 : ((t419.length : Int) != (l0.length : Int)) = false := bne_eq_false_iff_eq.mpr c82
                  have c82b2 : (t419.length == l0.length) = true := by first | simpa using c82 | (simp at c82 ⊢; omega)
                  clear c82
                  by_cases c83 : 0 ≤ a2
                  ·
                   rw [if_pos c83] at H
                   have c83b0 : decide (0 ≤ a2) = true := decide_eq_true c83
                   clear c83
                   by_cases c84 : a2 < (t419.length : Int)
                   ·
                    rw [if_pos c84] at H
                    have c84b0 : decide (a2 < (t419.length : Int)) = true := decide_eq_true c84
                    clear c84
                    obtain ⟨bq85, hbq85⟩ : ∃ b_ : Bool, b_ = (rdOf false t419 a2) := ⟨_, rfl⟩
                    replace H : (if bq85 = true then (some false) else ((linkhouselaw7_crossed.f k5).bind fun t426 => (some t426))) = some r := by rw [← hbq85] at H; exact H
                    have Nbq85 := Aside0.mk hbq85
                    clear hbq85
                    by_cases c86 : bq85 = true
                    ·
                     subst c86
                     have H1 : (some false) = some r := by rw [if_pos rfl] at H; exact H
                     clear H
                     have H := H1
                     clear H1
                     obtain rfl := Option.some.inj H
                     obtain ⟨Ao87, co87, eo87⟩ := Kd.S_slice HO_11.out
                     subst eo87
                     go_wp2_with (first | ((with_reducible refine gate_callee (f := 27) rfl ?_); refine goesL_ (some 148) rfl rfl Try.func27 (by kernel_rfl) rfl #[.slice Ao87 x11_5.length co87, .int .i64 a1] rfl ar_ ?_; (with_reducible refine (flow_Reachable.calls k5 _ _ x11_5 a1 t419 t422 t423 _ ?side1 ?side2 A80.out).mono ?_); (case side1 => repeat (first | exact (Kd.S_reads' HO_11.out).2.2 | (with_reducible refine Kd.C_alloc ?_ _) | (with_reducible refine Kd.C_drewN ?_ _) | (with_reducible refine Kd.C_drew ?_))); (case side2 => exact (Kd.S_reads' HO_11.out).2.1); rintro e w88 ⟨v420, rfl, ho0, hb⟩; refine ⟨_, rfl, ?_⟩; have n0_ := Aside0.mk (Kd.R_below (by (with_reducible repeat (first | apply Kd.R_alloc | apply Kd.R_drewN | apply Kd.R_drew)); exact HO_7.out) hb); have n1_ := Aside0.mk (Kd.S_below (by (with_reducible repeat (first | apply Kd.S_alloc | apply Kd.S_drewN | apply Kd.S_drew)); exact HO_11.out) hb); have n2_ := Aside0.mk (Kd.R_lower ho0 (below_size (bw_ HB))); have n3_ := Aside0.mk (blk_below (g := gb403) (o := .cells #[.int .i64 t401, .int .i64 t402] 28 (0, 0)) (bk_ BK403) hb); have n4_ := Aside0.mk (blk_below (g := gb413) (o := .cells #[.int .i64 t411, .int .i64 t412] 28 (0, 0)) (bk_ BK413) hb); have n5_ := Aside0.mk (below_step (bw_ HB) hb); clear HO_7; clear HO_11; clear BK403; clear BK413; clear HB; have HO_7 := n0_; have HO_11 := n1_; have HO421 := n2_; have BK403 := n3_; have BK413 := n4_; have HB := n5_; clear n0_ n1_ n2_ n3_ n4_ n5_; (try clear hb); (try clear hb2); (try clear hk); (try clear hi); (try clear ho0)) | ((with_reducible refine gate_dst (N := 16) rfl ?_); (try (refine gate_guard (by rfl) ?_; dsimp only)); refine bx_ (N := 16) (cs := #[.int .i64 0, .int .i64 0]) (t := 28) ?_; intro gb424 hg w89 hbox hb; have n0_ := Aside0.mk (Kd.R_below (by (with_reducible repeat (first | apply Kd.R_alloc | apply Kd.R_drewN | apply Kd.R_drew)); exact HO_7.out) hb); have n1_ := Aside0.mk (Kd.S_below (by (with_reducible repeat (first | apply Kd.S_alloc | apply Kd.S_drewN | apply Kd.S_drew)); exact HO_11.out) hb); have n2_ := Aside0.mk (Kd.R_below (by (with_reducible repeat (first | apply Kd.R_alloc | apply Kd.R_drewN | apply Kd.R_drew)); exact HO421.out) hb); have n3_ := Aside0.mk (blk_below (g := gb403) (o := .cells #[.int .i64 t401, .int .i64 t402] 28 (0, 0)) (bk_ BK403) hb); have n4_ := Aside0.mk (blk_below (g := gb413) (o := .cells #[.int .i64 t411, .int .i64 t412] 28 (0, 0)) (bk_ BK413) hb); have n5_ := Aside0.mk (below_step (bw_ HB) hb); have n6_ := Aside0.mk (hbox); have n7_ := Aside0.mk ((by rw [hg]; exact (below_size (bw_ HB)) : w.heap.size ≤ gb424)); have n8_ := Aside0.mk ((by rw [hg]; exact (below_size (bw_ HB)) : w.heap.size ≤ gb424)); have n9_ := Aside0.mk ((by rw [hg]; exact Nat.ne_of_lt (blk_lt (g := gb403) (o := .cells #[.int .i64 t401, .int .i64 t402] 28 (0, 0)) (bk_ BK403)) : gb403 ≠ gb424)); have n10_ := Aside0.mk ((by rw [hg]; exact Nat.ne_of_gt (blk_lt (g := gb403) (o := .cells #[.int .i64 t401, .int .i64 t402] 28 (0, 0)) (bk_ BK403)) : gb424 ≠ gb403)); have n11_ := Aside0.mk ((by rw [hg]; exact Nat.ne_of_lt (blk_lt (g := gb413) (o := .cells #[.int .i64 t411, .int .i64 t412] 28 (0, 0)) (bk_ BK413)) : gb413 ≠ gb424)); have n12_ := Aside0.mk ((by rw [hg]; exact Nat.ne_of_gt (blk_lt (g := gb413) (o := .cells #[.int .i64 t411, .int .i64 t412] 28 (0, 0)) (bk_ BK413)) : gb424 ≠ gb413)); clear HO_7; clear HO_11; clear HO421; clear BK403; clear BK413; clear HB; have HO_7 := n0_; have HO_11 := n1_; have HO421 := n2_; have BK403 := n3_; have BK413 := n4_; have HB := n5_; have BK424 := n6_; have GW424 := n7_; have GE424 := n8_; have NB403_424 := n9_; have NB424_403 := n10_; have NB413_424 := n11_; have NB424_413 := n12_; clear n0_ n1_ n2_ n3_ n4_ n5_ n6_ n7_ n8_ n9_ n10_ n11_ n12_; clear hb hbox hg; have hnb90 := NB424_403.out; have hnc90 := NB403_424.out; have hnb91 := NB424_413.out; have hnc91 := NB413_424.out; obtain ⟨hcz92_0, hcz92_1, hfz92_0, hfz92_1⟩ := cz2_ BK424; obtain ⟨Ao93, co93, eo93⟩ := Kd.R_slice HO421.out; subst eo93; have p425 : 0 ≤ (a2 : Int) := of_decide_eq_true (by first | (with_reducible assumption) | assumption); have q425 : a2 < (t419.length : Int) := of_decide_eq_true (by first | (with_reducible assumption) | assumption); obtain ⟨ad425, e425, hx425_0⟩ := Kd.at_bool (Kd.R_reads' HO421.out).2.2 a2 p425 q425; (try rw [← Nbq85.out] at hx425_0); cases e425; have hn425_0 : ad425.block ≠ gb424 := Kd.own_blk (Kd.R_ne HO421.out BK424.out (by decide)); have hn425_1 : ad425.block ≠ gb424 := Kd.own_blk (Kd.R_ne HO421.out BK424.out (by decide)); replace hx425_0 := (cell_far (p := ⟨gb424, 0, none⟩) (by first | (rw [add_block]; exact hn425_0) | (show (Addr.add _ _).block ≠ _; rw [add_block]; exact hn425_0) | exact hn425_0) (.int .i64 t422)).trans hx425_0; replace hx425_0 := (cell_far (p := ⟨gb424, 1, none⟩) (by first | (rw [add_block]; exact hn425_1) | (show (Addr.add _ _).block ≠ _; rw [add_block]; exact hn425_1) | exact hn425_1) (.int .i64 t423)).trans hx425_0; clear hn425_0; clear hn425_1; replace p425 := eq_true p425; replace q425 := eq_true q425))
                     go_ret
                     exact ⟨id_, bw_ HB⟩
                    ·
                     replace c86 := Bool.eq_false_iff.mpr c86
                     subst c86
                     have H1 : ((linkhouselaw7_crossed.f k5).bind fun t426 => (some t426)) = some r := by rw [if_neg (show ¬ (false = true) by decide)] at H; exact H
                     clear H
                     have H := H1
                     clear H1
                     replace H := Option.bind_eq_some_iff.mp H
                     obtain ⟨t426, A940, H⟩ := H
                     replace H : (some t426) = some r := H
                     have A94 := Aside0.mk A940
                     clear A940
                     obtain rfl := Option.some.inj H
                     obtain ⟨Ao95, co95, eo95⟩ := Kd.S_slice HO_11.out
                     subst eo95
                     go_wp2_with (first | ((with_reducible refine gate_callee (f := 27) rfl ?_); refine goesL_ (some 148) rfl rfl Try.func27 (by kernel_rfl) rfl #[.slice Ao95 x11_5.length co95, .int .i64 a1] rfl ar_ ?_; (with_reducible refine (flow_Reachable.calls k5 _ _ x11_5 a1 t419 t422 t423 _ ?side1 ?side2 A80.out).mono ?_); (case side1 => repeat (first | exact (Kd.S_reads' HO_11.out).2.2 | (with_reducible refine Kd.C_alloc ?_ _) | (with_reducible refine Kd.C_drewN ?_ _) | (with_reducible refine Kd.C_drew ?_))); (case side2 => exact (Kd.S_reads' HO_11.out).2.1); rintro e w96 ⟨v420, rfl, ho0, hb⟩; refine ⟨_, rfl, ?_⟩; have n0_ := Aside0.mk (Kd.R_below (by (with_reducible repeat (first | apply Kd.R_alloc | apply Kd.R_drewN | apply Kd.R_drew)); exact HO_7.out) hb); have n1_ := Aside0.mk (Kd.S_below (by (with_reducible repeat (first | apply Kd.S_alloc | apply Kd.S_drewN | apply Kd.S_drew)); exact HO_11.out) hb); have n2_ := Aside0.mk (Kd.R_lower ho0 (below_size (bw_ HB))); have n3_ := Aside0.mk (blk_below (g := gb403) (o := .cells #[.int .i64 t401, .int .i64 t402] 28 (0, 0)) (bk_ BK403) hb); have n4_ := Aside0.mk (blk_below (g := gb413) (o := .cells #[.int .i64 t411, .int .i64 t412] 28 (0, 0)) (bk_ BK413) hb); have n5_ := Aside0.mk (below_step (bw_ HB) hb); clear HO_7; clear HO_11; clear BK403; clear BK413; clear HB; have HO_7 := n0_; have HO_11 := n1_; have HO421 := n2_; have BK403 := n3_; have BK413 := n4_; have HB := n5_; clear n0_ n1_ n2_ n3_ n4_ n5_; (try clear hb); (try clear hb2); (try clear hk); (try clear hi); (try clear ho0)) | ((with_reducible refine gate_dst (N := 16) rfl ?_); (try (refine gate_guard (by rfl) ?_; dsimp only)); refine bx_ (N := 16) (cs := #[.int .i64 0, .int .i64 0]) (t := 28) ?_; intro gb424 hg w97 hbox hb; have n0_ := Aside0.mk (Kd.R_below (by (with_reducible repeat (first | apply Kd.R_alloc | apply Kd.R_drewN | apply Kd.R_drew)); exact HO_7.out) hb); have n1_ := Aside0.mk (Kd.S_below (by (with_reducible repeat (first | apply Kd.S_alloc | apply Kd.S_drewN | apply Kd.S_drew)); exact HO_11.out) hb); have n2_ := Aside0.mk (Kd.R_below (by (with_reducible repeat (first | apply Kd.R_alloc | apply Kd.R_drewN | apply Kd.R_drew)); exact HO421.out) hb); have n3_ := Aside0.mk (blk_below (g := gb403) (o := .cells #[.int .i64 t401, .int .i64 t402] 28 (0, 0)) (bk_ BK403) hb); have n4_ := Aside0.mk (blk_below (g := gb413) (o := .cells #[.int .i64 t411, .int .i64 t412] 28 (0, 0)) (bk_ BK413) hb); have n5_ := Aside0.mk (below_step (bw_ HB) hb); have n6_ := Aside0.mk (hbox); have n7_ := Aside0.mk ((by rw [hg]; exact (below_size (bw_ HB)) : w.heap.size ≤ gb424)); have n8_ := Aside0.mk ((by rw [hg]; exact (below_size (bw_ HB)) : w.heap.size ≤ gb424)); have n9_ := Aside0.mk ((by rw [hg]; exact Nat.ne_of_lt (blk_lt (g := gb403) (o := .cells #[.int .i64 t401, .int .i64 t402] 28 (0, 0)) (bk_ BK403)) : gb403 ≠ gb424)); have n10_ := Aside0.mk ((by rw [hg]; exact Nat.ne_of_gt (blk_lt (g := gb403) (o := .cells #[.int .i64 t401, .int .i64 t402] 28 (0, 0)) (bk_ BK403)) : gb424 ≠ gb403)); have n11_ := Aside0.mk ((by rw [hg]; exact Nat.ne_of_lt (blk_lt (g := gb413) (o := .cells #[.int .i64 t411, .int .i64 t412] 28 (0, 0)) (bk_ BK413)) : gb413 ≠ gb424)); have n12_ := Aside0.mk ((by rw [hg]; exact Nat.ne_of_gt (blk_lt (g := gb413) (o := .cells #[.int .i64 t411, .int .i64 t412] 28 (0, 0)) (bk_ BK413)) : gb424 ≠ gb413)); clear HO_7; clear HO_11; clear HO421; clear BK403; clear BK413; clear HB; have HO_7 := n0_; have HO_11 := n1_; have HO421 := n2_; have BK403 := n3_; have BK413 := n4_; have HB := n5_; have BK424 := n6_; have GW424 := n7_; have GE424 := n8_; have NB403_424 := n9_; have NB424_403 := n10_; have NB413_424 := n11_; have NB424_413 := n12_; clear n0_ n1_ n2_ n3_ n4_ n5_ n6_ n7_ n8_ n9_ n10_ n11_ n12_; clear hb hbox hg; have hnb98 := NB424_403.out; have hnc98 := NB403_424.out; have hnb99 := NB424_413.out; have hnc99 := NB413_424.out; obtain ⟨hcz100_0, hcz100_1, hfz100_0, hfz100_1⟩ := cz2_ BK424; obtain ⟨Ao101, co101, eo101⟩ := Kd.R_slice HO421.out; subst eo101; have p425 : 0 ≤ (a2 : Int) := of_decide_eq_true (by first | (with_reducible assumption) | assumption); have q425 : a2 < (t419.length : Int) := of_decide_eq_true (by first | (with_reducible assumption) | assumption); obtain ⟨ad425, e425, hx425_0⟩ := Kd.at_bool (Kd.R_reads' HO421.out).2.2 a2 p425 q425; (try rw [← Nbq85.out] at hx425_0); cases e425; have hn425_0 : ad425.block ≠ gb424 := Kd.own_blk (Kd.R_ne HO421.out BK424.out (by decide)); have hn425_1 : ad425.block ≠ gb424 := Kd.own_blk (Kd.R_ne HO421.out BK424.out (by decide)); replace hx425_0 := (cell_far (p := ⟨gb424, 0, none⟩) (by first | (rw [add_block]; exact hn425_0) | (show (Addr.add _ _).block ≠ _; rw [add_block]; exact hn425_0) | exact hn425_0) (.int .i64 t422)).trans hx425_0; replace hx425_0 := (cell_far (p := ⟨gb424, 1, none⟩) (by first | (rw [add_block]; exact hn425_1) | (show (Addr.add _ _).block ≠ _; rw [add_block]; exact hn425_1) | exact hn425_1) (.int .i64 t423)).trans hx425_0; clear hn425_0; clear hn425_1; replace p425 := eq_true p425; replace q425 := eq_true q425) | (go_at_call 21; (with_reducible refine (linkhouselaw7_crossed.calls k5  t426 _ A94.out).mono ?_); rintro e w102 ⟨rfl, hb⟩; have n0_ := Aside0.mk (Kd.R_below (by (with_reducible repeat (first | apply Kd.R_alloc | apply Kd.R_drewN | apply Kd.R_drew)); exact (Kd.R_mono (Kd.R_far (p := ⟨gb424, 1, none⟩) (Kd.R_far (p := ⟨gb424, 0, none⟩) (Kd.R_types HO_7.out BK424.out (by decide)) (fun _ hk => hk.2) (.int .i64 t422)) (fun _ hk => hk.2) (.int .i64 t423)) (fun _ h_ => h_.1))) hb); have n1_ := Aside0.mk (Kd.S_below (by (with_reducible repeat (first | apply Kd.S_alloc | apply Kd.S_drewN | apply Kd.S_drew)); exact (Kd.S_mono (Kd.S_far (p := ⟨gb424, 1, none⟩) (Kd.S_far (p := ⟨gb424, 0, none⟩) (Kd.S_types HO_11.out BK424.out (by decide)) (fun _ hk => hk.2) (.int .i64 t422)) (fun _ hk => hk.2) (.int .i64 t423)) (fun _ h_ => h_.1))) hb); have n2_ := Aside0.mk (Kd.R_below (by (with_reducible repeat (first | apply Kd.R_alloc | apply Kd.R_drewN | apply Kd.R_drew)); exact (Kd.R_mono (Kd.R_far (p := ⟨gb424, 1, none⟩) (Kd.R_far (p := ⟨gb424, 0, none⟩) (Kd.R_types HO421.out BK424.out (by decide)) (fun _ hk => hk.2) (.int .i64 t422)) (fun _ hk => hk.2) (.int .i64 t423)) (fun _ h_ => h_.1))) hb); have n3_ := Aside0.mk (blk_below (g := gb403) (o := .cells #[.int .i64 t401, .int .i64 t402] 28 (0, 0)) (bk_ BK403) hb); have n4_ := Aside0.mk (blk_below (g := gb413) (o := .cells #[.int .i64 t411, .int .i64 t412] 28 (0, 0)) (bk_ BK413) hb); have n5_ := Aside0.mk (blk_below (g := gb424) (o := .cells #[.int .i64 t422, .int .i64 t423] 28 (0, 0)) (bk_ BK424) hb); have n6_ := Aside0.mk (below_step (bw_ HB) hb); clear HO_7; clear HO_11; clear HO421; clear BK403; clear BK413; clear BK424; clear HB; have HO_7 := n0_; have HO_11 := n1_; have HO421 := n2_; have BK403 := n3_; have BK413 := n4_; have BK424 := n5_; have HB := n6_; clear n0_ n1_ n2_ n3_ n4_ n5_ n6_; (try clear hb); (try clear hb2); (try clear hk); (try clear hi)))
                     go_ret
                     exact ⟨id_, bw_ HB⟩
                   ·
                    rw [if_neg c84] at H
                    exact absurd H (by simp)
                  ·
                   rw [if_neg c83] at H
                   exact absurd H (by simp)
                 ·
                  rw [if_neg c82] at H
                  have c82b0 : ((t419.length : Int) == (l0.length : Int)) = false := beq_eq_false_iff_ne.mpr c82
                  have c82b1 : ((t419.length : Int) != (l0.length : Int)) = true := bne_iff_ne.mpr c82
                  have c82b2 : (t419.length == l0.length) = false := by first | simpa using c82 | (simp at c82 ⊢; omega)
                  obtain rfl := Option.some.inj H
                  obtain ⟨Ao103, co103, eo103⟩ := Kd.S_slice HO_11.out
                  subst eo103
                  go_wp2_with (first | ((with_reducible refine gate_callee (f := 27) rfl ?_); refine goesL_ (some 148) rfl rfl Try.func27 (by kernel_rfl) rfl #[.slice Ao103 x11_5.length co103, .int .i64 a1] rfl ar_ ?_; (with_reducible refine (flow_Reachable.calls k5 _ _ x11_5 a1 t419 t422 t423 _ ?side1 ?side2 A80.out).mono ?_); (case side1 => repeat (first | exact (Kd.S_reads' HO_11.out).2.2 | (with_reducible refine Kd.C_alloc ?_ _) | (with_reducible refine Kd.C_drewN ?_ _) | (with_reducible refine Kd.C_drew ?_))); (case side2 => exact (Kd.S_reads' HO_11.out).2.1); rintro e w104 ⟨v420, rfl, ho0, hb⟩; refine ⟨_, rfl, ?_⟩; have n0_ := Aside0.mk (Kd.R_below (by (with_reducible repeat (first | apply Kd.R_alloc | apply Kd.R_drewN | apply Kd.R_drew)); exact HO_7.out) hb); have n1_ := Aside0.mk (Kd.S_below (by (with_reducible repeat (first | apply Kd.S_alloc | apply Kd.S_drewN | apply Kd.S_drew)); exact HO_11.out) hb); have n2_ := Aside0.mk (Kd.R_lower ho0 (below_size (bw_ HB))); have n3_ := Aside0.mk (blk_below (g := gb403) (o := .cells #[.int .i64 t401, .int .i64 t402] 28 (0, 0)) (bk_ BK403) hb); have n4_ := Aside0.mk (blk_below (g := gb413) (o := .cells #[.int .i64 t411, .int .i64 t412] 28 (0, 0)) (bk_ BK413) hb); have n5_ := Aside0.mk (below_step (bw_ HB) hb); clear HO_7; clear HO_11; clear BK403; clear BK413; clear HB; have HO_7 := n0_; have HO_11 := n1_; have HO421 := n2_; have BK403 := n3_; have BK413 := n4_; have HB := n5_; clear n0_ n1_ n2_ n3_ n4_ n5_; (try clear hb); (try clear hb2); (try clear hk); (try clear hi); (try clear ho0)) | ((with_reducible refine gate_dst (N := 16) rfl ?_); (try (refine gate_guard (by rfl) ?_; dsimp only)); refine bx_ (N := 16) (cs := #[.int .i64 0, .int .i64 0]) (t := 28) ?_; intro gb424 hg w105 hbox hb; have n0_ := Aside0.mk (Kd.R_below (by (with_reducible repeat (first | apply Kd.R_alloc | apply Kd.R_drewN | apply Kd.R_drew)); exact HO_7.out) hb); have n1_ := Aside0.mk (Kd.S_below (by (with_reducible repeat (first | apply Kd.S_alloc | apply Kd.S_drewN | apply Kd.S_drew)); exact HO_11.out) hb); have n2_ := Aside0.mk (Kd.R_below (by (with_reducible repeat (first | apply Kd.R_alloc | apply Kd.R_drewN | apply Kd.R_drew)); exact HO421.out) hb); have n3_ := Aside0.mk (blk_below (g := gb403) (o := .cells #[.int .i64 t401, .int .i64 t402] 28 (0, 0)) (bk_ BK403) hb); have n4_ := Aside0.mk (blk_below (g := gb413) (o := .cells #[.int .i64 t411, .int .i64 t412] 28 (0, 0)) (bk_ BK413) hb); have n5_ := Aside0.mk (below_step (bw_ HB) hb); have n6_ := Aside0.mk (hbox); have n7_ := Aside0.mk ((by rw [hg]; exact (below_size (bw_ HB)) : w.heap.size ≤ gb424)); have n8_ := Aside0.mk ((by rw [hg]; exact (below_size (bw_ HB)) : w.heap.size ≤ gb424)); have n9_ := Aside0.mk ((by rw [hg]; exact Nat.ne_of_lt (blk_lt (g := gb403) (o := .cells #[.int .i64 t401, .int .i64 t402] 28 (0, 0)) (bk_ BK403)) : gb403 ≠ gb424)); have n10_ := Aside0.mk ((by rw [hg]; exact Nat.ne_of_gt (blk_lt (g := gb403) (o := .cells #[.int .i64 t401, .int .i64 t402] 28 (0, 0)) (bk_ BK403)) : gb424 ≠ gb403)); have n11_ := Aside0.mk ((by rw [hg]; exact Nat.ne_of_lt (blk_lt (g := gb413) (o := .cells #[.int .i64 t411, .int .i64 t412] 28 (0, 0)) (bk_ BK413)) : gb413 ≠ gb424)); have n12_ := Aside0.mk ((by rw [hg]; exact Nat.ne_of_gt (blk_lt (g := gb413) (o := .cells #[.int .i64 t411, .int .i64 t412] 28 (0, 0)) (bk_ BK413)) : gb424 ≠ gb413)); clear HO_7; clear HO_11; clear HO421; clear BK403; clear BK413; clear HB; have HO_7 := n0_; have HO_11 := n1_; have HO421 := n2_; have BK403 := n3_; have BK413 := n4_; have HB := n5_; have BK424 := n6_; have GW424 := n7_; have GE424 := n8_; have NB403_424 := n9_; have NB424_403 := n10_; have NB413_424 := n11_; have NB424_413 := n12_; clear n0_ n1_ n2_ n3_ n4_ n5_ n6_ n7_ n8_ n9_ n10_ n11_ n12_; clear hb hbox hg; have hnb106 := NB424_403.out; have hnc106 := NB403_424.out; have hnb107 := NB424_413.out; have hnc107 := NB413_424.out; obtain ⟨hcz108_0, hcz108_1, hfz108_0, hfz108_1⟩ := cz2_ BK424; obtain ⟨Ao109, co109, eo109⟩ := Kd.R_slice HO421.out; subst eo109))
                  go_ret
                  exact ⟨id_, bw_ HB⟩
                ·
                 rw [if_neg c81] at H
                 have c81b0 : (t422 == 0) = false := beq_eq_false_iff_ne.mpr c81
                 have c81b1 : (t422 != 0) = true := bne_iff_ne.mpr c81
                 obtain rfl := Option.some.inj H
                 obtain ⟨Ao110, co110, eo110⟩ := Kd.S_slice HO_11.out
                 subst eo110
                 go_wp2_with (first | ((with_reducible refine gate_callee (f := 27) rfl ?_); refine goesL_ (some 148) rfl rfl Try.func27 (by kernel_rfl) rfl #[.slice Ao110 x11_5.length co110, .int .i64 a1] rfl ar_ ?_; (with_reducible refine (flow_Reachable.calls k5 _ _ x11_5 a1 t419 t422 t423 _ ?side1 ?side2 A80.out).mono ?_); (case side1 => repeat (first | exact (Kd.S_reads' HO_11.out).2.2 | (with_reducible refine Kd.C_alloc ?_ _) | (with_reducible refine Kd.C_drewN ?_ _) | (with_reducible refine Kd.C_drew ?_))); (case side2 => exact (Kd.S_reads' HO_11.out).2.1); rintro e w111 ⟨v420, rfl, ho0, hb⟩; refine ⟨_, rfl, ?_⟩; have n0_ := Aside0.mk (Kd.R_below (by (with_reducible repeat (first | apply Kd.R_alloc | apply Kd.R_drewN | apply Kd.R_drew)); exact HO_7.out) hb); have n1_ := Aside0.mk (Kd.S_below (by (with_reducible repeat (first | apply Kd.S_alloc | apply Kd.S_drewN | apply Kd.S_drew)); exact HO_11.out) hb); have n2_ := Aside0.mk (Kd.R_lower ho0 (below_size (bw_ HB))); have n3_ := Aside0.mk (blk_below (g := gb403) (o := .cells #[.int .i64 t401, .int .i64 t402] 28 (0, 0)) (bk_ BK403) hb); have n4_ := Aside0.mk (blk_below (g := gb413) (o := .cells #[.int .i64 t411, .int .i64 t412] 28 (0, 0)) (bk_ BK413) hb); have n5_ := Aside0.mk (below_step (bw_ HB) hb); clear HO_7; clear HO_11; clear BK403; clear BK413; clear HB; have HO_7 := n0_; have HO_11 := n1_; have HO421 := n2_; have BK403 := n3_; have BK413 := n4_; have HB := n5_; clear n0_ n1_ n2_ n3_ n4_ n5_; (try clear hb); (try clear hb2); (try clear hk); (try clear hi); (try clear ho0)) | ((with_reducible refine gate_dst (N := 16) rfl ?_); (try (refine gate_guard (by rfl) ?_; dsimp only)); refine bx_ (N := 16) (cs := #[.int .i64 0, .int .i64 0]) (t := 28) ?_; intro gb424 hg w112 hbox hb; have n0_ := Aside0.mk (Kd.R_below (by (with_reducible repeat (first | apply Kd.R_alloc | apply Kd.R_drewN | apply Kd.R_drew)); exact HO_7.out) hb); have n1_ := Aside0.mk (Kd.S_below (by (with_reducible repeat (first | apply Kd.S_alloc | apply Kd.S_drewN | apply Kd.S_drew)); exact HO_11.out) hb); have n2_ := Aside0.mk (Kd.R_below (by (with_reducible repeat (first | apply Kd.R_alloc | apply Kd.R_drewN | apply Kd.R_drew)); exact HO421.out) hb); have n3_ := Aside0.mk (blk_below (g := gb403) (o := .cells #[.int .i64 t401, .int .i64 t402] 28 (0, 0)) (bk_ BK403) hb); have n4_ := Aside0.mk (blk_below (g := gb413) (o := .cells #[.int .i64 t411, .int .i64 t412] 28 (0, 0)) (bk_ BK413) hb); have n5_ := Aside0.mk (below_step (bw_ HB) hb); have n6_ := Aside0.mk (hbox); have n7_ := Aside0.mk ((by rw [hg]; exact (below_size (bw_ HB)) : w.heap.size ≤ gb424)); have n8_ := Aside0.mk ((by rw [hg]; exact (below_size (bw_ HB)) : w.heap.size ≤ gb424)); have n9_ := Aside0.mk ((by rw [hg]; exact Nat.ne_of_lt (blk_lt (g := gb403) (o := .cells #[.int .i64 t401, .int .i64 t402] 28 (0, 0)) (bk_ BK403)) : gb403 ≠ gb424)); have n10_ := Aside0.mk ((by rw [hg]; exact Nat.ne_of_gt (blk_lt (g := gb403) (o := .cells #[.int .i64 t401, .int .i64 t402] 28 (0, 0)) (bk_ BK403)) : gb424 ≠ gb403)); have n11_ := Aside0.mk ((by rw [hg]; exact Nat.ne_of_lt (blk_lt (g := gb413) (o := .cells #[.int .i64 t411, .int .i64 t412] 28 (0, 0)) (bk_ BK413)) : gb413 ≠ gb424)); have n12_ := Aside0.mk ((by rw [hg]; exact Nat.ne_of_gt (blk_lt (g := gb413) (o := .cells #[.int .i64 t411, .int .i64 t412] 28 (0, 0)) (bk_ BK413)) : gb424 ≠ gb413)); clear HO_7; clear HO_11; clear HO421; clear BK403; clear BK413; clear HB; have HO_7 := n0_; have HO_11 := n1_; have HO421 := n2_; have BK403 := n3_; have BK413 := n4_; have HB := n5_; have BK424 := n6_; have GW424 := n7_; have GE424 := n8_; have NB403_424 := n9_; have NB424_403 := n10_; have NB413_424 := n11_; have NB424_413 := n12_; clear n0_ n1_ n2_ n3_ n4_ n5_ n6_ n7_ n8_ n9_ n10_ n11_ n12_; clear hb hbox hg; have hnb113 := NB424_403.out; have hnc113 := NB403_424.out; have hnb114 := NB424_413.out; have hnc114 := NB413_424.out; obtain ⟨hcz115_0, hcz115_1, hfz115_0, hfz115_1⟩ := cz2_ BK424))
                 go_ret
                 exact ⟨id_, bw_ HB⟩

end Go.Proofs.Ytaellapacoikaaa.PB
