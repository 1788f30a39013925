import Derived.Test.YtaellapacoikaaaU0
import Derived.Test.YtaellapacoikaaaUSBx0
import Derived.Test.YtaellapacoikaaaUSBx1
import Derived.Test.YtaellapacoikaaaUSBx4
import Derived.Test.YtaellapacoikaaaUSBx6
import Derived.Test.YtaellapacoikaaaUSBx7
import Derived.Test.YtaellapacoikaaaUSBx8
namespace Go.Proofs.Ytaellapacoikaaa.PB
open Go.RowKit Go.Proofs.YtaellapacoikaaaW.PrintWords Go.Proofs.YtaellapacoikaaaW.PrintLast Go.Proofs.YtaellapacoikaaaW.PrintMore
attribute [local go_sem] max2_int min2_int max_two min_two max_three min_three max_four min_four   -- for this text's walks alone
set_option linter.unusedVariables false
set_option linter.unusedSimpArgs false

attribute [local go_sem high] eqA28
/-! ### linkhouseref7_Loops: function 26 -/
set_option maxRecDepth 100000 in
mutual
def linkhouseref7_Loops.l0 : Nat → List (S62) → Int → List Bool → List (S68) → Int → Option ((List (S68)))
 | 0, _, _, _, _, _ => none
 | k + 1, x0, x1, x5, x6, x7 => if x7 < (x0.length : Int) then (linkhouseref7_Loops.l1 k x0 x1 x5 x6 x7 ([] : List Int) 0) else (some x6)
def linkhouseref7_Loops.l1 : Nat → List (S62) → Int → List Bool → List (S68) → Int → List Int → Int → Option ((List (S68)))
 | 0, _, _, _, _, _, _, _ => none
 | k + 1, x0, x1, x5, x6, x7, x8, x9 => if x9 < (x0.length : Int) then (if 0 ≤ x9 then (if x9 < (x5.length : Int) then (if rdOf false x5 x9 = true then (if 0 ≤ x7 then (if x7 < (x5.length : Int) then (if rdOf false x5 x7 = true then ((linkhouseref7_Leads.f k x0 x9 x7).bind fun t312 => (if t312 = true then ((linkhouseref7_Dominates.f k x0 x1 x7 x9).bind fun t313 => (if t313 = true then (if x8.length < 17592186044416 then (linkhouseref7_Loops.l1 k x0 x1 x5 x6 x7 (x8 ++ [x9]) (wrap64 (x9 + 1))) else (none)) else (linkhouseref7_Loops.l1 k x0 x1 x5 x6 x7 x8 (wrap64 (x9 + 1))))) else (linkhouseref7_Loops.l1 k x0 x1 x5 x6 x7 x8 (wrap64 (x9 + 1))))) else (linkhouseref7_Loops.l1 k x0 x1 x5 x6 x7 x8 (wrap64 (x9 + 1)))) else (none)) else (none)) else (linkhouseref7_Loops.l1 k x0 x1 x5 x6 x7 x8 (wrap64 (x9 + 1)))) else (none)) else (none)) else (if (x8.length : Int) = 0 then (linkhouseref7_Loops.l0 k x0 x1 x5 x6 (wrap64 (x7 + 1))) else (linkhouseref7_Loops.l2 k x0 x1 x5 x6 x7 x8 0 x7 ([] : List Int)))
def linkhouseref7_Loops.l2 : Nat → List (S62) → Int → List Bool → List (S68) → Int → List Int → Int → Int → List Int → Option ((List (S68)))
 | 0, _, _, _, _, _, _, _, _, _ => none
 | k + 1, x0, x1, x5, x6, x7, x8, x11, x318000, x318001 => if x11 < (x0.length : Int) then (if x11 = x7 then (if x318001.length < 17592186044416 then (linkhouseref7_Loops.l2 k x0 x1 x5 x6 x7 x8 (wrap64 (x11 + 1)) x318000 (x318001 ++ [x11])) else (none)) else (if 0 ≤ x11 then (if x11 < (x5.length : Int) then (if rdOf false x5 x11 = true then ((linkhouseref7_Reached.f k x0 x11 x7).bind fun t322 => (linkhouseref7_Loops.l3 k x0 x1 x5 x6 x7 x8 x11 (x11 == x7) t322 0 x318000 x318001)) else (linkhouseref7_Loops.l2 k x0 x1 x5 x6 x7 x8 (wrap64 (x11 + 1)) x318000 x318001)) else (none)) else (none))) else (if x6.length < 4398046511104 then (linkhouseref7_Loops.l0 k x0 x1 x5 (x6 ++ [(⟨x318000, x318001⟩ : S68)]) (wrap64 (x7 + 1))) else (none))
def linkhouseref7_Loops.l3 : Nat → List (S62) → Int → List Bool → List (S68) → Int → List Int → Int → Bool → List Bool → Int → Int → List Int → Option ((List (S68)))
 | 0, _, _, _, _, _, _, _, _, _, _, _, _ => none
 | k + 1, x0, x1, x5, x6, x7, x8, x11, x12, x13, x14, x318000, x318001 => if x14 < (x8.length : Int) then (if x12 = true then (linkhouseref7_Loops.l3 k x0 x1 x5 x6 x7 x8 x11 true x13 (wrap64 (x14 + 1)) x318000 x318001) else (if 0 ≤ x14 then (if 0 ≤ (rd x8 x14) then (if (rd x8 x14) < (x13.length : Int) then (linkhouseref7_Loops.l3 k x0 x1 x5 x6 x7 x8 x11 (rdOf false x13 (rd x8 x14)) x13 (wrap64 (x14 + 1)) x318000 x318001) else (none)) else (none)) else (none))) else (if x12 = true then (if x318001.length < 17592186044416 then (linkhouseref7_Loops.l2 k x0 x1 x5 x6 x7 x8 (wrap64 (x11 + 1)) x318000 (x318001 ++ [x11])) else (none)) else (linkhouseref7_Loops.l2 k x0 x1 x5 x6 x7 x8 (wrap64 (x11 + 1)) x318000 x318001))
end
set_option maxRecDepth 100000 in
def linkhouseref7_Loops.f (k : Nat) (l0 : List (S62)) (a1 : Int) : Option ((List (S68))) := (linkhouseref7_Reached.f k l0 a1 (-1)).bind fun t307 => (linkhouseref7_Loops.l0 k l0 a1 t307 ([] : List (S68)) 0)
set_option maxRecDepth 100000 in
theorem linkhouseref7_Loops.mono_l : ∀ k, (∀ y0 y1 y2 y3 y4, LeO (linkhouseref7_Loops.l0 k y0 y1 y2 y3 y4) (linkhouseref7_Loops.l0 (k + 1) y0 y1 y2 y3 y4)) ∧ (∀ y0 y1 y2 y3 y4 y5 y6, LeO (linkhouseref7_Loops.l1 k y0 y1 y2 y3 y4 y5 y6) (linkhouseref7_Loops.l1 (k + 1) y0 y1 y2 y3 y4 y5 y6)) ∧ (∀ y0 y1 y2 y3 y4 y5 y6 y7 y8, LeO (linkhouseref7_Loops.l2 k y0 y1 y2 y3 y4 y5 y6 y7 y8) (linkhouseref7_Loops.l2 (k + 1) y0 y1 y2 y3 y4 y5 y6 y7 y8)) ∧ (∀ y0 y1 y2 y3 y4 y5 y6 y7 y8 y9 y10 y11, LeO (linkhouseref7_Loops.l3 k y0 y1 y2 y3 y4 y5 y6 y7 y8 y9 y10 y11) (linkhouseref7_Loops.l3 (k + 1) y0 y1 y2 y3 y4 y5 y6 y7 y8 y9 y10 y11))
 | 0 => ⟨fun _ _ _ _ _ r h => by simp [linkhouseref7_Loops.l0] at h, fun _ _ _ _ _ _ _ r h => by simp [linkhouseref7_Loops.l1] at h, fun _ _ _ _ _ _ _ _ _ r h => by simp [linkhouseref7_Loops.l2] at h, fun _ _ _ _ _ _ _ _ _ _ _ _ r h => by simp [linkhouseref7_Loops.l3] at h⟩
 | k + 1 => by
  obtain ⟨ih0, ih1, ih2, ih3⟩ := linkhouseref7_Loops.mono_l k
  refine ⟨?_, ?_, ?_, ?_⟩
  ·
   intro y0 y1 y2 y3 y4
   unfold linkhouseref7_Loops.l0
   repeat' first
   | (with_reducible exact ih0 _ _ _ _ _)
   | (with_reducible exact ih1 _ _ _ _ _ _ _)
   | (with_reducible exact ih2 _ _ _ _ _ _ _ _ _)
   | (with_reducible exact ih3 _ _ _ _ _ _ _ _ _ _ _ _)
   | (with_reducible exact linkhouseref7_Dominates.mono _ _ _ _ _)
   | (with_reducible exact linkhouseref7_Leads.mono _ _ _ _)
   | (with_reducible exact linkhouseref7_Reached.mono _ _ _ _)
   | (with_reducible exact LeO.refl _)
   | (with_reducible exact LeO.none _)
   | (with_reducible refine LeO.ite ?_ ?_)
   | (with_reducible refine LeO.bind ?_ (fun _ => ?_))
   | exact ih0 _ _ _ _ _
   | exact ih1 _ _ _ _ _ _ _
   | exact ih2 _ _ _ _ _ _ _ _ _
   | exact ih3 _ _ _ _ _ _ _ _ _ _ _ _
   | exact linkhouseref7_Dominates.mono _ _ _ _ _
   | exact linkhouseref7_Leads.mono _ _ _ _
   | exact linkhouseref7_Reached.mono _ _ _ _
   | exact LeO.none _
   | refine LeO.ite ?_ ?_
   | refine LeO.bind ?_ (fun _ => ?_)
  ·
   intro y0 y1 y2 y3 y4 y5 y6
   unfold linkhouseref7_Loops.l1
   repeat' first
   | (with_reducible exact ih0 _ _ _ _ _)
   | (with_reducible exact ih1 _ _ _ _ _ _ _)
   | (with_reducible exact ih2 _ _ _ _ _ _ _ _ _)
   | (with_reducible exact ih3 _ _ _ _ _ _ _ _ _ _ _ _)
   | (with_reducible exact linkhouseref7_Dominates.mono _ _ _ _ _)
   | (with_reducible exact linkhouseref7_Leads.mono _ _ _ _)
   | (with_reducible exact linkhouseref7_Reached.mono _ _ _ _)
   | (with_reducible exact LeO.refl _)
   | (with_reducible exact LeO.none _)
   | (with_reducible refine LeO.ite ?_ ?_)
   | (with_reducible refine LeO.bind ?_ (fun _ => ?_))
   | exact ih0 _ _ _ _ _
   | exact ih1 _ _ _ _ _ _ _
   | exact ih2 _ _ _ _ _ _ _ _ _
   | exact ih3 _ _ _ _ _ _ _ _ _ _ _ _
   | exact linkhouseref7_Dominates.mono _ _ _ _ _
   | exact linkhouseref7_Leads.mono _ _ _ _
   | exact linkhouseref7_Reached.mono _ _ _ _
   | exact LeO.none _
   | refine LeO.ite ?_ ?_
   | refine LeO.bind ?_ (fun _ => ?_)
  ·
   intro y0 y1 y2 y3 y4 y5 y6 y7 y8
   unfold linkhouseref7_Loops.l2
   repeat' first
   | (with_reducible exact ih0 _ _ _ _ _)
   | (with_reducible exact ih1 _ _ _ _ _ _ _)
   | (with_reducible exact ih2 _ _ _ _ _ _ _ _ _)
   | (with_reducible exact ih3 _ _ _ _ _ _ _ _ _ _ _ _)
   | (with_reducible exact linkhouseref7_Dominates.mono _ _ _ _ _)
   | (with_reducible exact linkhouseref7_Leads.mono _ _ _ _)
   | (with_reducible exact linkhouseref7_Reached.mono _ _ _ _)
   | (with_reducible exact LeO.refl _)
   | (with_reducible exact LeO.none _)
   | (with_reducible refine LeO.ite ?_ ?_)
   | (with_reducible refine LeO.bind ?_ (fun _ => ?_))
   | exact ih0 _ _ _ _ _
   | exact ih1 _ _ _ _ _ _ _
   | exact ih2 _ _ _ _ _ _ _ _ _
   | exact ih3 _ _ _ _ _ _ _ _ _ _ _ _
   | exact linkhouseref7_Dominates.mono _ _ _ _ _
   | exact linkhouseref7_Leads.mono _ _ _ _
   | exact linkhouseref7_Reached.mono _ _ _ _
   | exact LeO.none _
   | refine LeO.ite ?_ ?_
   | refine LeO.bind ?_ (fun _ => ?_)
  ·
   intro y0 y1 y2 y3 y4 y5 y6 y7 y8 y9 y10 y11
   unfold linkhouseref7_Loops.l3
   repeat' first
   | (with_reducible exact ih0 _ _ _ _ _)
   | (with_reducible exact ih1 _ _ _ _ _ _ _)
   | (with_reducible exact ih2 _ _ _ _ _ _ _ _ _)
   | (with_reducible exact ih3 _ _ _ _ _ _ _ _ _ _ _ _)
   | (with_reducible exact linkhouseref7_Dominates.mono _ _ _ _ _)
   | (with_reducible exact linkhouseref7_Leads.mono _ _ _ _)
   | (with_reducible exact linkhouseref7_Reached.mono _ _ _ _)
   | (with_reducible exact LeO.refl _)
   | (with_reducible exact LeO.none _)
   | (with_reducible refine LeO.ite ?_ ?_)
   | (with_reducible refine LeO.bind ?_ (fun _ => ?_))
   | exact ih0 _ _ _ _ _
   | exact ih1 _ _ _ _ _ _ _
   | exact ih2 _ _ _ _ _ _ _ _ _
   | exact ih3 _ _ _ _ _ _ _ _ _ _ _ _
   | exact linkhouseref7_Dominates.mono _ _ _ _ _
   | exact linkhouseref7_Leads.mono _ _ _ _
   | exact linkhouseref7_Reached.mono _ _ _ _
   | exact LeO.none _
   | refine LeO.ite ?_ ?_
   | refine LeO.bind ?_ (fun _ => ?_)
set_option maxRecDepth 100000 in
theorem linkhouseref7_Loops.mono : ∀ a0 a1 k, LeO (linkhouseref7_Loops.f k a0 a1) (linkhouseref7_Loops.f (k + 1) a0 a1) := by
 intro a0 a1 k
 obtain ⟨ih0, ih1, ih2, ih3⟩ := linkhouseref7_Loops.mono_l k
 unfold linkhouseref7_Loops.f
 repeat' first
   | (with_reducible exact ih0 _ _ _ _ _)
   | (with_reducible exact ih1 _ _ _ _ _ _ _)
   | (with_reducible exact ih2 _ _ _ _ _ _ _ _ _)
   | (with_reducible exact ih3 _ _ _ _ _ _ _ _ _ _ _ _)
   | (with_reducible exact linkhouseref7_Dominates.mono _ _ _ _ _)
   | (with_reducible exact linkhouseref7_Leads.mono _ _ _ _)
   | (with_reducible exact linkhouseref7_Reached.mono _ _ _ _)
   | (with_reducible exact LeO.refl _)
   | (with_reducible exact LeO.none _)
   | (with_reducible refine LeO.ite ?_ ?_)
   | (with_reducible refine LeO.bind ?_ (fun _ => ?_))
   | exact ih0 _ _ _ _ _
   | exact ih1 _ _ _ _ _ _ _
   | exact ih2 _ _ _ _ _ _ _ _ _
   | exact ih3 _ _ _ _ _ _ _ _ _ _ _ _
   | exact linkhouseref7_Dominates.mono _ _ _ _ _
   | exact linkhouseref7_Leads.mono _ _ _ _
   | exact linkhouseref7_Reached.mono _ _ _ _
   | exact LeO.none _
   | refine LeO.ite ?_ ?_
   | refine LeO.bind ?_ (fun _ => ?_)
set_option maxHeartbeats 8000000 in
set_option maxRecDepth 100000 in
theorem linkhouseref7_Loops.calls (k : Nat) (A0 : Option Addr) (c0 : Nat) (l0 : List (S62)) (a1 : Int) (r : List (S68)) (w : World) (hr0 : Kd.C k62 w A0 l0.length l0) (hc0 : l0.length ≤ c0) (h : linkhouseref7_Loops.f k l0 a1 = some r) :
  Calls Try.prog 26 #[.slice A0 l0.length c0, .int .i64 a1] w fun e w' => ∃ v0_ : Value, e = .returned (v0_) ∧ Kd.S k68 68 w' w.heap.size (fun _ => True) v0_ r ∧ Below w.heap.size w w' := by
 have hu68 := Try.underlying68
 have HR0 := Aside0.mk hr0
 have HC0 := Aside0.mk hc0
 clear hr0 hc0
 have HB := Aside0.mk (Below.refl w.heap.size w)
 have H : ((linkhouseref7_Reached.f k l0 a1 (-1)).bind fun t307 => (linkhouseref7_Loops.l0 k l0 a1 t307 ([] : List (S68)) 0)) = some r := h
 clear h
 replace H := Option.bind_eq_some_iff.mp H
 obtain ⟨t307, A30, H⟩ := H
 replace H : (linkhouseref7_Loops.l0 k l0 a1 t307 ([] : List (S68)) 0) = some r := H
 have A3 := Aside0.mk A30
 clear A30
 have H' := Aside0.mk H
 clear H
 go_enter Try.func26, Try.ntmps26
 go_wp2_with (first | ((with_reducible refine gate_callee (f := 31) rfl ?_); refine goesL_ (some 17) rfl rfl Try.func31 (by kernel_rfl) rfl #[.slice A0 l0.length c0, .int .i64 a1, .int .i64 (-1)] rfl ar_ ?_; (with_reducible refine (linkhouseref7_Reached.calls k _ _ l0 a1 (-1) t307 _ ?side1 ?side2 A3.out).mono ?_); (case side1 => repeat (first | exact HR0.out | (with_reducible refine Kd.C_alloc ?_ _) | (with_reducible refine Kd.C_drewN ?_ _) | (with_reducible refine Kd.C_drew ?_))); (case side2 => exact HC0.out); rintro e w4 ⟨v308, rfl, ho0, hb⟩; refine ⟨_, rfl, ?_⟩; have n0_ := Aside0.mk (Kd.R_lower ho0 (below_size (bw_ HB))); have n1_ := Aside0.mk (below_step (bw_ HB) hb); clear HB; have HO309 := n0_; have HB := n1_; clear n0_ n1_; (try clear hb); (try clear hb2); (try clear hk); (try clear hi); (try clear ho0)))
 go_loopg [6, 7] k (fun kq v6 v7 w' => ∃ (x6_1 : List (S68)) (x7_1 : Int), v7 = .int .i64 x7_1 ∧ Aside0 (linkhouseref7_Loops.l0 kq l0 a1 t307 x6_1 x7_1 = some r) ∧ Aside0 (kq ≤ k) ∧ Aside0 (Kd.R Kd.bool 4 w' w.heap.size (fun _ => True) v308 t307) ∧ Aside0 (Kd.S k68 68 w' w.heap.size (fun _ => True) v6 x6_1) ∧ Aside0 (Below w.heap.size w w'))
 case atStart => exact ⟨(([] : List (S68))), (0), rs_, H', ⟨Nat.le_refl _⟩, ⟨by (with_reducible repeat (first | apply Kd.R_alloc | apply Kd.R_drewN | apply Kd.R_drew)); exact HO309.out⟩, ⟨by first | exact Kd.S_nil _ _ _ _ _ | exact Kd.N_nil _ _ _ _ _ | exact Kd.V_nil _ _ _ _ _ | exact Kd.Q_nil _ _ _ _ _ | exact Kd.R_nil _ _ _ _ _⟩, ⟨bw_ HB⟩⟩
 case round =>
  clear H'
  (try clear c2); (try clear p2); (try clear c3)
  obtain ⟨x6_1, x7_1, rfl, HA, HK1, HO_5, HO_6, HB⟩ := hrel
  cases gk with
  | zero => exact absurd HA.out (by simp [linkhouseref7_Loops.l0])
  | succ k1 =>
   have H := HA.out
   clear HA
   simp only [linkhouseref7_Loops.l0] at H
   by_cases c5 : x7_1 < (l0.length : Int)
   ·
    rw [if_pos c5] at H
    have c5b0 : decide (x7_1 < (l0.length : Int)) = true := decide_eq_true c5
    clear c5
    have H' := Aside0.mk H
    clear H
    go_wp2
    go_loopg [8, 9] k1 (fun kq v8 v9 w' => ∃ (x8_2 : List Int) (x9_2 : Int), v9 = .int .i64 x9_2 ∧ Aside0 (linkhouseref7_Loops.l1 kq l0 a1 t307 x6_1 x7_1 x8_2 x9_2 = some r) ∧ Aside0 (kq ≤ k1) ∧ Aside0 (Kd.R Kd.bool 4 w' w.heap.size (fun _ => True) v308 t307) ∧ Aside0 (Kd.S k68 68 w' w.heap.size (fun k_ => some k_ ≠ (v8 : Value).ownBlock) u6 x6_1) ∧ Aside0 (Kd.R (Kd.int .i64) 3 w' w.heap.size (fun _ => True) v8 x8_2) ∧ Aside0 (Below w.heap.size w w'))
    case atStart => exact ⟨(([] : List Int)), (0), rs_, H', ⟨Nat.le_refl _⟩, ⟨by (with_reducible repeat (first | apply Kd.R_alloc | apply Kd.R_drewN | apply Kd.R_drew)); exact HO_5.out⟩, ⟨by (with_reducible repeat (first | apply Kd.S_alloc | apply Kd.S_drewN | apply Kd.S_drew)); exact Kd.S_mono HO_6.out (fun _ hk => (by simp [Value.ownBlock]))⟩, ⟨by first | exact Kd.R_nil _ _ _ _ _ | exact Kd.N_nil _ _ _ _ _ | exact Kd.V_nil _ _ _ _ _ | exact Kd.Q_nil _ _ _ _ _ | exact Kd.S_nil _ _ _ _ _⟩, ⟨bw_ HB⟩⟩
    case round =>
     clear H'
     (try clear c2); (try clear p2); (try clear c3); (try clear c5); (try clear c5b0); (try clear p2)
     obtain ⟨x8_2, x9_2, rfl, HA, HK2, HO_5, HO_6, HO_8, HB⟩ := hrel
     cases gk with
     | zero => exact absurd HA.out (by simp [linkhouseref7_Loops.l1])
     | succ k2 =>
      have H := HA.out
      clear HA
      simp only [linkhouseref7_Loops.l1] at H
      by_cases c6 : x9_2 < (l0.length : Int)
      ·
       rw [if_pos c6] at H
       have c6b0 : decide (x9_2 < (l0.length : Int)) = true := decide_eq_true c6
       clear c6
       by_cases c7 : 0 ≤ x9_2
       ·
        rw [if_pos c7] at H
        have c7b0 : decide (0 ≤ x9_2) = true := decide_eq_true c7
        clear c7
        by_cases c8 : x9_2 < (t307.length : Int)
        ·
         rw [if_pos c8] at H
         have c8b0 : decide (x9_2 < (t307.length : Int)) = true := decide_eq_true c8
         clear c8
         obtain ⟨bq9, hbq9⟩ : ∃ b_ : Bool, b_ = (rdOf false t307 x9_2) := ⟨_, rfl⟩
         replace H : (if bq9 = true then (if 0 ≤ x7_1 then (if x7_1 < (t307.length : Int) then (if rdOf false t307 x7_1 = true then ((linkhouseref7_Leads.f k2 l0 x9_2 x7_1).bind fun t312 => (if t312 = true then ((linkhouseref7_Dominates.f k2 l0 a1 x7_1 x9_2).bind fun t313 => (if t313 = true then (if x8_2.length < 17592186044416 then (linkhouseref7_Loops.l1 k2 l0 a1 t307 x6_1 x7_1 (x8_2 ++ [x9_2]) (wrap64 (x9_2 + 1))) else (none)) else (linkhouseref7_Loops.l1 k2 l0 a1 t307 x6_1 x7_1 x8_2 (wrap64 (x9_2 + 1))))) else (linkhouseref7_Loops.l1 k2 l0 a1 t307 x6_1 x7_1 x8_2 (wrap64 (x9_2 + 1))))) else (linkhouseref7_Loops.l1 k2 l0 a1 t307 x6_1 x7_1 x8_2 (wrap64 (x9_2 + 1)))) else (none)) else (none)) else (linkhouseref7_Loops.l1 k2 l0 a1 t307 x6_1 x7_1 x8_2 (wrap64 (x9_2 + 1)))) = some r := by rw [← hbq9] at H; exact H
         have Nbq9 := Aside0.mk hbq9
         clear hbq9
         by_cases c10 : bq9 = true
         ·
          subst c10
          have H1 : (if 0 ≤ x7_1 then (if x7_1 < (t307.length : Int) then (if rdOf false t307 x7_1 = true then ((linkhouseref7_Leads.f k2 l0 x9_2 x7_1).bind fun t312 => (if t312 = true then ((linkhouseref7_Dominates.f k2 l0 a1 x7_1 x9_2).bind fun t313 => (if t313 = true then (if x8_2.length < 17592186044416 then (linkhouseref7_Loops.l1 k2 l0 a1 t307 x6_1 x7_1 (x8_2 ++ [x9_2]) (wrap64 (x9_2 + 1))) else (none)) else (linkhouseref7_Loops.l1 k2 l0 a1 t307 x6_1 x7_1 x8_2 (wrap64 (x9_2 + 1))))) else (linkhouseref7_Loops.l1 k2 l0 a1 t307 x6_1 x7_1 x8_2 (wrap64 (x9_2 + 1))))) else (linkhouseref7_Loops.l1 k2 l0 a1 t307 x6_1 x7_1 x8_2 (wrap64 (x9_2 + 1)))) else (none)) else (none)) = some r := by rw [if_pos rfl] at H; exact H
          clear H
          have H := H1
          clear H1
          by_cases c11 : 0 ≤ x7_1
          ·
           rw [if_pos c11] at H
           have c11b0 : decide (0 ≤ x7_1) = true := decide_eq_true c11
           clear c11
           by_cases c12 : x7_1 < (t307.length : Int)
           ·
            rw [if_pos c12] at H
            have c12b0 : decide (x7_1 < (t307.length : Int)) = true := decide_eq_true c12
            clear c12
            obtain ⟨bq13, hbq13⟩ : ∃ b_ : Bool, b_ = (rdOf false t307 x7_1) := ⟨_, rfl⟩
            replace H : (if bq13 = true then ((linkhouseref7_Leads.f k2 l0 x9_2 x7_1).bind fun t312 => (if t312 = true then ((linkhouseref7_Dominates.f k2 l0 a1 x7_1 x9_2).bind fun t313 => (if t313 = true then (if x8_2.length < 17592186044416 then (linkhouseref7_Loops.l1 k2 l0 a1 t307 x6_1 x7_1 (x8_2 ++ [x9_2]) (wrap64 (x9_2 + 1))) else (none)) else (linkhouseref7_Loops.l1 k2 l0 a1 t307 x6_1 x7_1 x8_2 (wrap64 (x9_2 + 1))))) else (linkhouseref7_Loops.l1 k2 l0 a1 t307 x6_1 x7_1 x8_2 (wrap64 (x9_2 + 1))))) else (linkhouseref7_Loops.l1 k2 l0 a1 t307 x6_1 x7_1 x8_2 (wrap64 (x9_2 + 1)))) = some r := by rw [← hbq13] at H; exact H
            have Nbq13 := Aside0.mk hbq13
            clear hbq13
            by_cases c14 : bq13 = true
            ·
             subst c14
             have H1 : ((linkhouseref7_Leads.f k2 l0 x9_2 x7_1).bind fun t312 => (if t312 = true then ((linkhouseref7_Dominates.f k2 l0 a1 x7_1 x9_2).bind fun t313 => (if t313 = true then (if x8_2.length < 17592186044416 then (linkhouseref7_Loops.l1 k2 l0 a1 t307 x6_1 x7_1 (x8_2 ++ [x9_2]) (wrap64 (x9_2 + 1))) else (none)) else (linkhouseref7_Loops.l1 k2 l0 a1 t307 x6_1 x7_1 x8_2 (wrap64 (x9_2 + 1))))) else (linkhouseref7_Loops.l1 k2 l0 a1 t307 x6_1 x7_1 x8_2 (wrap64 (x9_2 + 1))))) = some r := by rw [if_pos rfl] at H; exact H
             clear H
             have H := H1
             clear H1
             replace H := Option.bind_eq_some_iff.mp H
             obtain ⟨t312, A150, H⟩ := H
             replace H : (if t312 = true then ((linkhouseref7_Dominates.f k2 l0 a1 x7_1 x9_2).bind fun t313 => (if t313 = true then (if x8_2.length < 17592186044416 then (linkhouseref7_Loops.l1 k2 l0 a1 t307 x6_1 x7_1 (x8_2 ++ [x9_2]) (wrap64 (x9_2 + 1))) else (none)) else (linkhouseref7_Loops.l1 k2 l0 a1 t307 x6_1 x7_1 x8_2 (wrap64 (x9_2 + 1))))) else (linkhouseref7_Loops.l1 k2 l0 a1 t307 x6_1 x7_1 x8_2 (wrap64 (x9_2 + 1)))) = some r := H
             have A15 := Aside0.mk A150
             clear A150
             by_cases c16 : t312 = true
             ·
              subst c16
              have H1 : ((linkhouseref7_Dominates.f k2 l0 a1 x7_1 x9_2).bind fun t313 => (if t313 = true then (if x8_2.length < 17592186044416 then (linkhouseref7_Loops.l1 k2 l0 a1 t307 x6_1 x7_1 (x8_2 ++ [x9_2]) (wrap64 (x9_2 + 1))) else (none)) else (linkhouseref7_Loops.l1 k2 l0 a1 t307 x6_1 x7_1 x8_2 (wrap64 (x9_2 + 1))))) = some r := by rw [if_pos rfl] at H; exact H
              clear H
              have H := H1
              clear H1
              replace H := Option.bind_eq_some_iff.mp H
              obtain ⟨t313, A170, H⟩ := H
              replace H : (if t313 = true then (if x8_2.length < 17592186044416 then (linkhouseref7_Loops.l1 k2 l0 a1 t307 x6_1 x7_1 (x8_2 ++ [x9_2]) (wrap64 (x9_2 + 1))) else (none)) else (linkhouseref7_Loops.l1 k2 l0 a1 t307 x6_1 x7_1 x8_2 (wrap64 (x9_2 + 1)))) = some r := H
              have A17 := Aside0.mk A170
              clear A170
              by_cases c18 : t313 = true
              ·
               subst c18
               have H1 : (if x8_2.length < 17592186044416 then (linkhouseref7_Loops.l1 k2 l0 a1 t307 x6_1 x7_1 (x8_2 ++ [x9_2]) (wrap64 (x9_2 + 1))) else (none)) = some r := by rw [if_pos rfl] at H; exact H
               clear H
               have H := H1
               clear H1
               by_cases c19 : x8_2.length < 17592186044416
               ·
                rw [if_pos c19] at H
                have LMc19 := Aside0.mk c19
                clear c19
                obtain ⟨y314, hy314⟩ : ∃ y_ : List Int, y_ = (x8_2 ++ [x9_2]) := ⟨_, rfl⟩
                replace H : (linkhouseref7_Loops.l1 k2 l0 a1 t307 x6_1 x7_1 y314 (wrap64 (x9_2 + 1))) = some r := by first | (rw [hy314]; with_reducible exact H) | (have H2_ := (Option.bind_some _ _).symm.trans H; rw [hy314]; with_reducible exact H2_) | (have H2_ := (Option.bind_some _ _).symm.trans H; with_reducible exact H2_) | with_reducible exact H | (rw [hy314]; exact H) | exact H
                have Ny314 := Aside0.mk hy314
                clear hy314
                have H' := Aside0.mk H
                clear H
                obtain ⟨Ao20, co20, eo20⟩ := Kd.R_slice HO_5.out
                subst eo20
                have p310 : 0 ≤ (x9_2 : Int) := of_decide_eq_true (by first | (with_reducible assumption) | assumption)
                have q310 : x9_2 < (t307.length : Int) := of_decide_eq_true (by first | (with_reducible assumption) | assumption)
                obtain ⟨ad310, e310, hx310_0⟩ := Kd.at_bool (Kd.R_reads' HO_5.out).2.2 x9_2 p310 q310
                (try rw [← Nbq9.out] at hx310_0)
                (try rw [← Nbq13.out] at hx310_0)
                cases e310
                replace p310 := eq_true p310
                replace q310 := eq_true q310
                have p311 : 0 ≤ (x7_1 : Int) := of_decide_eq_true (by first | (with_reducible assumption) | assumption)
                have q311 : x7_1 < (t307.length : Int) := of_decide_eq_true (by first | (with_reducible assumption) | assumption)
                obtain ⟨ad311, e311, hx311_0⟩ := Kd.at_bool (Kd.R_reads' HO_5.out).2.2 x7_1 p311 q311
                (try rw [← Nbq9.out] at hx311_0)
                (try rw [← Nbq13.out] at hx311_0)
                obtain rfl : ad310 = ad311 := (by injection e311)
                replace p311 := eq_true p311
                replace q311 := eq_true q311
                go_wp2_with (first | (go_at_call 49; (with_reducible refine (linkhouseref7_Leads.calls k2 _ _ l0 x9_2 x7_1 true _ ?side1 ?side2 A15.out).mono ?_); (case side1 => exact cb_ HR0 HB); (case side2 => exact HC0.out); rintro e w21 ⟨rfl, hb⟩; have n0_ := Aside0.mk (Kd.R_below (by (with_reducible repeat (first | apply Kd.R_alloc | apply Kd.R_drewN | apply Kd.R_drew)); exact HO_5.out) hb); have n1_ := Aside0.mk (Kd.S_below (by (with_reducible repeat (first | apply Kd.S_alloc | apply Kd.S_drewN | apply Kd.S_drew)); exact HO_6.out) hb); have n2_ := Aside0.mk (Kd.R_below (by (with_reducible repeat (first | apply Kd.R_alloc | apply Kd.R_drewN | apply Kd.R_drew)); exact HO_8.out) hb); have n3_ := Aside0.mk (below_step (bw_ HB) hb); clear HO_5; clear HO_6; clear HO_8; clear HB; have HO_5 := n0_; have HO_6 := n1_; have HO_8 := n2_; have HB := n3_; clear n0_ n1_ n2_ n3_; (try clear hb); (try clear hb2); (try clear hk); (try clear hi)) | (go_at_call 45; (with_reducible refine (linkhouseref7_Dominates.calls k2 _ _ l0 a1 x7_1 x9_2 true _ ?side1 ?side2 A17.out).mono ?_); (case side1 => exact cb_ HR0 HB); (case side2 => exact HC0.out); rintro e w22 ⟨rfl, hb⟩; have n0_ := Aside0.mk (Kd.R_below (by (with_reducible repeat (first | apply Kd.R_alloc | apply Kd.R_drewN | apply Kd.R_drew)); exact HO_5.out) hb); have n1_ := Aside0.mk (Kd.S_below (by (with_reducible repeat (first | apply Kd.S_alloc | apply Kd.S_drewN | apply Kd.S_drew)); exact HO_6.out) hb); have n2_ := Aside0.mk (Kd.R_below (by (with_reducible repeat (first | apply Kd.R_alloc | apply Kd.R_drewN | apply Kd.R_drew)); exact HO_8.out) hb); have n3_ := Aside0.mk (below_step (bw_ HB) hb); clear HO_5; clear HO_6; clear HO_8; clear HB; have HO_5 := n0_; have HO_6 := n1_; have HO_8 := n2_; have HB := n3_; clear n0_ n1_ n2_ n3_; (try clear hb); (try clear hb2); (try clear hk); (try clear hi)) | ((with_reducible refine gate_builtin (b := .append) (xs := #[.tmp 53, .tmp 55]) rfl ?_); at_builtin; refine Kd.R_append (Kd.int .i64) (w0 := w) w.heap.size rfl (.tmp 53) (.tmp 55) 22 3 (.int .i64 0) 8 rfl Try.underlying22 info3 rfl (by decide) (by omega) u8 x8_2 x9_2 [.int .i64 x9_2] (fun _ => True) (fun _ => False) rfl rfl ?aP (fun _ hk => hk.elim) ?aF ?aO ?aB ?aS ?aL ?_; (case aP => exact rfl); (case aB => exact (bw_ HB)); (case aF => exact (fun _ _ => trivial)); (case aO => exact (by (with_reducible repeat (first | apply Kd.R_alloc | apply Kd.R_drewN | apply Kd.R_drew)); exact HO_8.out)); (case aS => exact (below_size (bw_ HB))); (case aL => have := LMc19.out; omega); intro v315 w23 ho hb hg hat; rw [← Ny314.out] at ho; have n0_ := Aside0.mk (Kd.R_over' (by (with_reducible repeat (first | apply Kd.R_alloc | apply Kd.R_drewN | apply Kd.R_drew)); exact HO_5.out) (Kd.R_typed (by (with_reducible repeat (first | apply Kd.R_alloc | apply Kd.R_drewN | apply Kd.R_drew)); exact HO_8.out)) (by decide) hg); have n1_ := Aside0.mk (Kd.S_after (ok := (fun _ => True)) (by (with_reducible repeat (first | apply Kd.S_alloc | apply Kd.S_drewN | apply Kd.S_drew)); exact Kd.S_mono HO_6.out (fun _ hk => ⟨trivial, hk⟩)) hg hat); have n2_ := Aside0.mk (hb); have n3_ := Aside0.mk (ho); clear HO_5; clear HO_6; clear HB; clear HO_8; have HO_5 := n0_; have HO_6 := n1_; have HB := n2_; have HO316 := n3_; clear n0_ n1_ n2_ n3_; clear ho hb hg hat))
                go_roundg k2
                case measure => have := HK1.out; have := HK2.out; omega
                case rel => exact ⟨(y314), (wrap64 (x9_2 + 1)), rs_, H', ⟨by have := HK1.out; have := HK2.out; omega⟩, ⟨by (with_reducible repeat (first | apply Kd.R_alloc | apply Kd.R_drewN | apply Kd.R_drew)); exact HO_5.out⟩, ⟨by (with_reducible repeat (first | apply Kd.S_alloc | apply Kd.S_drewN | apply Kd.S_drew)); exact Kd.S_mono HO_6.out (fun _ hk => hk.2)⟩, ⟨by (with_reducible repeat (first | apply Kd.R_alloc | apply Kd.R_drewN | apply Kd.R_drew)); exact HO316.out⟩, ⟨bw_ HB⟩⟩
               ·
                rw [if_neg c19] at H
                exact absurd H (by simp)
              ·
               replace c18 := Bool.eq_false_iff.mpr c18
               subst c18
               have H1 : (linkhouseref7_Loops.l1 k2 l0 a1 t307 x6_1 x7_1 x8_2 (wrap64 (x9_2 + 1))) = some r := by rw [if_neg (show ¬ (false = true) by decide)] at H; exact H
               clear H
               have H := H1
               clear H1
               have H' := Aside0.mk H
               clear H
               obtain ⟨Ao24, co24, eo24⟩ := Kd.R_slice HO_5.out
               subst eo24
               have p310 : 0 ≤ (x9_2 : Int) := of_decide_eq_true (by first | (with_reducible assumption) | assumption)
               have q310 : x9_2 < (t307.length : Int) := of_decide_eq_true (by first | (with_reducible assumption) | assumption)
               obtain ⟨ad310, e310, hx310_0⟩ := Kd.at_bool (Kd.R_reads' HO_5.out).2.2 x9_2 p310 q310
               (try rw [← Nbq9.out] at hx310_0)
               (try rw [← Nbq13.out] at hx310_0)
               cases e310
               replace p310 := eq_true p310
               replace q310 := eq_true q310
               have p311 : 0 ≤ (x7_1 : Int) := of_decide_eq_true (by first | (with_reducible assumption) | assumption)
               have q311 : x7_1 < (t307.length : Int) := of_decide_eq_true (by first | (with_reducible assumption) | assumption)
               obtain ⟨ad311, e311, hx311_0⟩ := Kd.at_bool (Kd.R_reads' HO_5.out).2.2 x7_1 p311 q311
               (try rw [← Nbq9.out] at hx311_0)
               (try rw [← Nbq13.out] at hx311_0)
               obtain rfl : ad310 = ad311 := (by injection e311)
               replace p311 := eq_true p311
               replace q311 := eq_true q311
               go_wp2_with (first | (go_at_call 49; (with_reducible refine (linkhouseref7_Leads.calls k2 _ _ l0 x9_2 x7_1 true _ ?side1 ?side2 A15.out).mono ?_); (case side1 => exact cb_ HR0 HB); (case side2 => exact HC0.out); rintro e w25 ⟨rfl, hb⟩; have n0_ := Aside0.mk (Kd.R_below (by (with_reducible repeat (first | apply Kd.R_alloc | apply Kd.R_drewN | apply Kd.R_drew)); exact HO_5.out) hb); have n1_ := Aside0.mk (Kd.S_below (by (with_reducible repeat (first | apply Kd.S_alloc | apply Kd.S_drewN | apply Kd.S_drew)); exact HO_6.out) hb); have n2_ := Aside0.mk (Kd.R_below (by (with_reducible repeat (first | apply Kd.R_alloc | apply Kd.R_drewN | apply Kd.R_drew)); exact HO_8.out) hb); have n3_ := Aside0.mk (below_step (bw_ HB) hb); clear HO_5; clear HO_6; clear HO_8; clear HB; have HO_5 := n0_; have HO_6 := n1_; have HO_8 := n2_; have HB := n3_; clear n0_ n1_ n2_ n3_; (try clear hb); (try clear hb2); (try clear hk); (try clear hi)) | (go_at_call 45; (with_reducible refine (linkhouseref7_Dominates.calls k2 _ _ l0 a1 x7_1 x9_2 false _ ?side1 ?side2 A17.out).mono ?_); (case side1 => exact cb_ HR0 HB); (case side2 => exact HC0.out); rintro e w26 ⟨rfl, hb⟩; have n0_ := Aside0.mk (Kd.R_below (by (with_reducible repeat (first | apply Kd.R_alloc | apply Kd.R_drewN | apply Kd.R_drew)); exact HO_5.out) hb); have n1_ := Aside0.mk (Kd.S_below (by (with_reducible repeat (first | apply Kd.S_alloc | apply Kd.S_drewN | apply Kd.S_drew)); exact HO_6.out) hb); have n2_ := Aside0.mk (Kd.R_below (by (with_reducible repeat (first | apply Kd.R_alloc | apply Kd.R_drewN | apply Kd.R_drew)); exact HO_8.out) hb); have n3_ := Aside0.mk (below_step (bw_ HB) hb); clear HO_5; clear HO_6; clear HO_8; clear HB; have HO_5 := n0_; have HO_6 := n1_; have HO_8 := n2_; have HB := n3_; clear n0_ n1_ n2_ n3_; (try clear hb); (try clear hb2); (try clear hk); (try clear hi)))
               go_roundg k2
               case measure => have := HK1.out; have := HK2.out; omega
               case rel => exact ⟨(x8_2), (wrap64 (x9_2 + 1)), rs_, H', ⟨by have := HK1.out; have := HK2.out; omega⟩, ⟨by (with_reducible repeat (first | apply Kd.R_alloc | apply Kd.R_drewN | apply Kd.R_drew)); exact HO_5.out⟩, ⟨by (with_reducible repeat (first | apply Kd.S_alloc | apply Kd.S_drewN | apply Kd.S_drew)); exact HO_6.out⟩, ⟨by (with_reducible repeat (first | apply Kd.R_alloc | apply Kd.R_drewN | apply Kd.R_drew)); exact HO_8.out⟩, ⟨bw_ HB⟩⟩
             ·
              replace c16 := Bool.eq_false_iff.mpr c16
              subst c16
              have H1 : (linkhouseref7_Loops.l1 k2 l0 a1 t307 x6_1 x7_1 x8_2 (wrap64 (x9_2 + 1))) = some r := by rw [if_neg (show ¬ (false = true) by decide)] at H; exact H
              clear H
              have H := H1
              clear H1
              have H' := Aside0.mk H
              clear H
              obtain ⟨Ao27, co27, eo27⟩ := Kd.R_slice HO_5.out
              subst eo27
              have p310 : 0 ≤ (x9_2 : Int) := of_decide_eq_true (by first | (with_reducible assumption) | assumption)
              have q310 : x9_2 < (t307.length : Int) := of_decide_eq_true (by first | (with_reducible assumption) | assumption)
              obtain ⟨ad310, e310, hx310_0⟩ := Kd.at_bool (Kd.R_reads' HO_5.out).2.2 x9_2 p310 q310
              (try rw [← Nbq9.out] at hx310_0)
              (try rw [← Nbq13.out] at hx310_0)
              cases e310
              replace p310 := eq_true p310
              replace q310 := eq_true q310
              have p311 : 0 ≤ (x7_1 : Int) := of_decide_eq_true (by first | (with_reducible assumption) | assumption)
              have q311 : x7_1 < (t307.length : Int) := of_decide_eq_true (by first | (with_reducible assumption) | assumption)
              obtain ⟨ad311, e311, hx311_0⟩ := Kd.at_bool (Kd.R_reads' HO_5.out).2.2 x7_1 p311 q311
              (try rw [← Nbq9.out] at hx311_0)
              (try rw [← Nbq13.out] at hx311_0)
              obtain rfl : ad310 = ad311 := (by injection e311)
              replace p311 := eq_true p311
              replace q311 := eq_true q311
              go_wp2_with (first | (go_at_call 49; (with_reducible refine (linkhouseref7_Leads.calls k2 _ _ l0 x9_2 x7_1 false _ ?side1 ?side2 A15.out).mono ?_); (case side1 => exact cb_ HR0 HB); (case side2 => exact HC0.out); rintro e w28 ⟨rfl, hb⟩; have n0_ := Aside0.mk (Kd.R_below (by (with_reducible repeat (first | apply Kd.R_alloc | apply Kd.R_drewN | apply Kd.R_drew)); exact HO_5.out) hb); have n1_ := Aside0.mk (Kd.S_below (by (with_reducible repeat (first | apply Kd.S_alloc | apply Kd.S_drewN | apply Kd.S_drew)); exact HO_6.out) hb); have n2_ := Aside0.mk (Kd.R_below (by (with_reducible repeat (first | apply Kd.R_alloc | apply Kd.R_drewN | apply Kd.R_drew)); exact HO_8.out) hb); have n3_ := Aside0.mk (below_step (bw_ HB) hb); clear HO_5; clear HO_6; clear HO_8; clear HB; have HO_5 := n0_; have HO_6 := n1_; have HO_8 := n2_; have HB := n3_; clear n0_ n1_ n2_ n3_; (try clear hb); (try clear hb2); (try clear hk); (try clear hi)))
              go_roundg k2
              case measure => have := HK1.out; have := HK2.out; omega
              case rel => exact ⟨(x8_2), (wrap64 (x9_2 + 1)), rs_, H', ⟨by have := HK1.out; have := HK2.out; omega⟩, ⟨by (with_reducible repeat (first | apply Kd.R_alloc | apply Kd.R_drewN | apply Kd.R_drew)); exact HO_5.out⟩, ⟨by (with_reducible repeat (first | apply Kd.S_alloc | apply Kd.S_drewN | apply Kd.S_drew)); exact HO_6.out⟩, ⟨by (with_reducible repeat (first | apply Kd.R_alloc | apply Kd.R_drewN | apply Kd.R_drew)); exact HO_8.out⟩, ⟨bw_ HB⟩⟩
            ·
             replace c14 := Bool.eq_false_iff.mpr c14
             subst c14
             have H1 : (linkhouseref7_Loops.l1 k2 l0 a1 t307 x6_1 x7_1 x8_2 (wrap64 (x9_2 + 1))) = some r := by rw [if_neg (show ¬ (false = true) by decide)] at H; exact H
             clear H
             have H := H1
             clear H1
             have H' := Aside0.mk H
             clear H
             obtain ⟨Ao29, co29, eo29⟩ := Kd.R_slice HO_5.out
             subst eo29
             have p310 : 0 ≤ (x9_2 : Int) := of_decide_eq_true (by first | (with_reducible assumption) | assumption)
             have q310 : x9_2 < (t307.length : Int) := of_decide_eq_true (by first | (with_reducible assumption) | assumption)
             obtain ⟨ad310, e310, hx310_0⟩ := Kd.at_bool (Kd.R_reads' HO_5.out).2.2 x9_2 p310 q310
             (try rw [← Nbq9.out] at hx310_0)
             (try rw [← Nbq13.out] at hx310_0)
             cases e310
             replace p310 := eq_true p310
             replace q310 := eq_true q310
             have p311 : 0 ≤ (x7_1 : Int) := of_decide_eq_true (by first | (with_reducible assumption) | assumption)
             have q311 : x7_1 < (t307.length : Int) := of_decide_eq_true (by first | (with_reducible assumption) | assumption)
             obtain ⟨ad311, e311, hx311_0⟩ := Kd.at_bool (Kd.R_reads' HO_5.out).2.2 x7_1 p311 q311
             (try rw [← Nbq9.out] at hx311_0)
             (try rw [← Nbq13.out] at hx311_0)
             obtain rfl : ad310 = ad311 := (by injection e311)
             replace p311 := eq_true p311
             replace q311 := eq_true q311
             go_wp2
             go_roundg k2
             case measure => have := HK1.out; have := HK2.out; omega
             case rel => exact ⟨(x8_2), (wrap64 (x9_2 + 1)), rs_, H', ⟨by have := HK1.out; have := HK2.out; omega⟩, ⟨by (with_reducible repeat (first | apply Kd.R_alloc | apply Kd.R_drewN | apply Kd.R_drew)); exact HO_5.out⟩, ⟨by (with_reducible repeat (first | apply Kd.S_alloc | apply Kd.S_drewN | apply Kd.S_drew)); exact HO_6.out⟩, ⟨by (with_reducible repeat (first | apply Kd.R_alloc | apply Kd.R_drewN | apply Kd.R_drew)); exact HO_8.out⟩, ⟨bw_ HB⟩⟩
           ·
            rw [if_neg c12] at H
            exact absurd H (by simp)
          ·
           rw [if_neg c11] at H
           exact absurd H (by simp)
         ·
          replace c10 := Bool.eq_false_iff.mpr c10
          subst c10
          have H1 : (linkhouseref7_Loops.l1 k2 l0 a1 t307 x6_1 x7_1 x8_2 (wrap64 (x9_2 + 1))) = some r := by rw [if_neg (show ¬ (false = true) by decide)] at H; exact H
          clear H
          have H := H1
          clear H1
          have H' := Aside0.mk H
          clear H
          obtain ⟨Ao30, co30, eo30⟩ := Kd.R_slice HO_5.out
          subst eo30
          have p310 : 0 ≤ (x9_2 : Int) := of_decide_eq_true (by first | (with_reducible assumption) | assumption)
          have q310 : x9_2 < (t307.length : Int) := of_decide_eq_true (by first | (with_reducible assumption) | assumption)
          obtain ⟨ad310, e310, hx310_0⟩ := Kd.at_bool (Kd.R_reads' HO_5.out).2.2 x9_2 p310 q310
          (try rw [← Nbq9.out] at hx310_0)
          cases e310
          replace p310 := eq_true p310
          replace q310 := eq_true q310
          go_wp2
          go_roundg k2
          case measure => have := HK1.out; have := HK2.out; omega
          case rel => exact ⟨(x8_2), (wrap64 (x9_2 + 1)), rs_, H', ⟨by have := HK1.out; have := HK2.out; omega⟩, ⟨by (with_reducible repeat (first | apply Kd.R_alloc | apply Kd.R_drewN | apply Kd.R_drew)); exact HO_5.out⟩, ⟨by (with_reducible repeat (first | apply Kd.S_alloc | apply Kd.S_drewN | apply Kd.S_drew)); exact HO_6.out⟩, ⟨by (with_reducible repeat (first | apply Kd.R_alloc | apply Kd.R_drewN | apply Kd.R_drew)); exact HO_8.out⟩, ⟨bw_ HB⟩⟩
        ·
         rw [if_neg c8] at H
         exact absurd H (by simp)
       ·
        rw [if_neg c7] at H
        exact absurd H (by simp)
      ·
       rw [if_neg c6] at H
       have c6b0 : decide (x9_2 < (l0.length : Int)) = false := decide_eq_false c6
       clear c6
       by_cases c31 : (x8_2.length : Int) = 0
       ·
        rw [if_pos c31] at H
        have c31b0 : ((x8_2.length : Int) == 0) = true := beq_iff_eq.mpr c31
        have c31b1 : ((x8_2.length : Int) != 0) = false := bne_eq_false_iff_eq.mpr c31
        clear c31
        have H' := Aside0.mk H
        clear H
        obtain ⟨Ao32, co32, eo32⟩ := Kd.R_slice HO_8.out
        subst eo32
        go_wp2
        go_roundg k2
        case measure => have := HK1.out; have := HK2.out; omega
        case rel => exact ⟨(x6_1), (wrap64 (x7_1 + 1)), rs_, H', ⟨by have := HK1.out; have := HK2.out; omega⟩, ⟨by (with_reducible repeat (first | apply Kd.R_alloc | apply Kd.R_drewN | apply Kd.R_drew)); exact HO_5.out⟩, ⟨by (with_reducible repeat (first | apply Kd.S_alloc | apply Kd.S_drewN | apply Kd.S_drew)); exact Kd.S_mono HO_6.out (fun _ hk => trivial)⟩, ⟨bw_ HB⟩⟩
       ·
        rw [if_neg c31] at H
        have c31b0 : ((x8_2.length : Int) == 0) = false := beq_eq_false_iff_ne.mpr c31
        have c31b1 : ((x8_2.length : Int) != 0) = true := bne_iff_ne.mpr c31
        have c31b2 : ¬ (x8_2 = []) := fun h_ => c31 (by rw [h_]; rfl)
        have H' := Aside0.mk H
        clear H
        obtain ⟨Ao33, co33, eo33⟩ := Kd.R_slice HO_8.out
        subst eo33
        go_wp2_with (first | ((with_reducible refine gate_dst (N := 10) rfl ?_); refine bx_ (N := 10) (cs := #[.int .i64 0, .slice none 0 0]) (t := 68) ?_; intro gb317 hg w34 hbox hb; have n0_ := Aside0.mk (Kd.R_below (by (with_reducible repeat (first | apply Kd.R_alloc | apply Kd.R_drewN | apply Kd.R_drew)); exact HO_5.out) hb); have n1_ := Aside0.mk (Kd.S_below (Kd.S_elderB (by (with_reducible repeat (first | apply Kd.S_alloc | apply Kd.S_drewN | apply Kd.S_drew)); exact HO_6.out) gb317 (Nat.le_of_eq hg.symm)) hb); have n2_ := Aside0.mk (Kd.R_below (by (with_reducible repeat (first | apply Kd.R_alloc | apply Kd.R_drewN | apply Kd.R_drew)); exact HO_8.out) hb); have n3_ := Aside0.mk (below_step (bw_ HB) hb); have n4_ := Aside0.mk (hbox); have n5_ := Aside0.mk ((by rw [hg]; exact (below_size (bw_ HB)) : w.heap.size ≤ gb317)); have n6_ := Aside0.mk ((by rw [hg]; exact (below_size (bw_ HB)) : w.heap.size ≤ gb317)); clear HO_5; clear HO_6; clear HO_8; clear HB; have HO_5 := n0_; have HO_6 := n1_; have HO_8 := n2_; have HB := n3_; have BK317 := n4_; have GW317 := n5_; have GE317 := n6_; clear n0_ n1_ n2_ n3_ n4_ n5_ n6_; clear hb hbox hg; obtain ⟨hcz35_0, hcz35_1, hfz35_0, hfz35_1⟩ := cz2_ BK317))
        go_loopg [11] k2 (fun kq v11 w' => ∃ (x11_3 : Int) (x318001_3 : List Int) (u318001 : Value), v11 = .int .i64 x11_3 ∧ Aside0 (linkhouseref7_Loops.l2 kq l0 a1 t307 x6_1 x7_1 x8_2 x11_3 x7_1 x318001_3 = some r) ∧ Aside0 (kq ≤ k2) ∧ Aside0 (Kd.R Kd.bool 4 w' w.heap.size (fun _ => True) v308 t307) ∧ Aside0 (Kd.S k68 68 w' w.heap.size (fun k_ => some k_ ≠ ((.slice Ao33 x8_2.length co33) : Value).ownBlock ∧ some k_ ≠ (u318001 : Value).ownBlock ∧ k_ ≠ gb317) u6 x6_1) ∧ Aside0 (Kd.R (Kd.int .i64) 3 w' w.heap.size (fun k_ => some k_ ≠ (u318001 : Value).ownBlock) (.slice Ao33 x8_2.length co33) x8_2) ∧ Aside0 (Kd.R (Kd.int .i64) 3 w' w.heap.size (fun k_ => some k_ ≠ ((.slice Ao33 x8_2.length co33) : Value).ownBlock) u318001 x318001_3) ∧ Aside0 (w'.heap[gb317]? = some (.cells #[.int .i64 x7_1, u318001] 68 (0, 0))) ∧ Aside0 (Below w.heap.size w w'))
        case atStart => exact ⟨(0), (([] : List Int)), (.slice none 0 0), rs_, H', ⟨Nat.le_refl _⟩, ⟨by (with_reducible repeat (first | apply Kd.R_alloc | apply Kd.R_drewN | apply Kd.R_drew)); exact Kd.R_mono (Kd.R_far (p := ⟨gb317, 1, none⟩) (Kd.R_far (p := ⟨gb317, 0, none⟩) (Kd.R_types HO_5.out BK317.out (by decide)) (fun _ hk => hk.2) (.int .i64 x7_1)) (fun _ hk => hk.2) (.slice none 0 0)) (fun _ hk => trivial)⟩, ⟨by (with_reducible repeat (first | apply Kd.S_alloc | apply Kd.S_drewN | apply Kd.S_drew)); exact Kd.S_mono (Kd.S_far (p := ⟨gb317, 1, none⟩) (Kd.S_far (p := ⟨gb317, 0, none⟩) (Kd.S_mono HO_6.out (fun k_ hk => (⟨hk, hk.2⟩ : _ ∧ k_ ≠ gb317))) (fun _ hk => hk.2) (.int .i64 x7_1)) (fun _ hk => hk.2) (.slice none 0 0)) (fun _ hk => ⟨hk.1.1, ⟨(by simp [Value.ownBlock]), hk.1.2⟩⟩)⟩, ⟨by (with_reducible repeat (first | apply Kd.R_alloc | apply Kd.R_drewN | apply Kd.R_drew)); exact Kd.R_mono (Kd.R_far (p := ⟨gb317, 1, none⟩) (Kd.R_far (p := ⟨gb317, 0, none⟩) (Kd.R_types HO_8.out BK317.out (by decide)) (fun _ hk => hk.2) (.int .i64 x7_1)) (fun _ hk => hk.2) (.slice none 0 0)) (fun _ hk => (by simp [Value.ownBlock]))⟩, ⟨by first | exact Kd.R_nil _ _ _ _ _ | exact Kd.N_nil _ _ _ _ _ | exact Kd.V_nil _ _ _ _ _ | exact Kd.Q_nil _ _ _ _ _ | exact Kd.S_nil _ _ _ _ _⟩, ⟨bk_ BK317⟩, ⟨bw_ HB⟩⟩
        case round =>
         clear H'
         (try clear c1); (try clear q1); (try clear c2); (try clear p2); (try clear c3); (try clear p3); (try clear q3); (try clear hx3); (try clear c5); (try clear c5b0); (try clear c6); (try clear c6b0); (try clear p6); (try clear c7); (try clear c7b0); (try clear c8); (try clear c8b0); (try clear q9); (try clear c10); (try clear c11); (try clear c11b0); (try clear c12); (try clear c12b0); (try clear q13); (try clear c14); (try clear c16); (try clear c18); (try clear c19); (try clear c26); (try clear c31); (try clear c31b0); (try clear c31b1); (try clear c31b2); (try clear p31); (try clear q31); (try clear hx31); (try clear hcz35_0); (try clear hcz35_1); (try clear hfz35_0); (try clear hfz35_1); (try clear hx310_0); (try clear hx311_0); (try clear p2); (try clear p310); (try clear p311); (try clear q310); (try clear q311)
         obtain ⟨x11_3, x318001_3, u318001, rfl, HA, HK3, HO_5, HO_6, HO_8, HO_318001, BK317, HB⟩ := hrel
         cases gk with
         | zero => exact absurd HA.out (by simp [linkhouseref7_Loops.l2])
         | succ k3 =>
          have H := HA.out
          clear HA
          simp only [linkhouseref7_Loops.l2] at H
          by_cases c36 : x11_3 < (l0.length : Int)
          ·
           rw [if_pos c36] at H
           have c36b0 : decide (x11_3 < (l0.length : Int)) = true := decide_eq_true c36
           clear c36
           by_cases c37 : x11_3 = x7_1
           ·
            rw [if_pos c37] at H
            have c37b0 : (x11_3 == x7_1) = true := beq_iff_eq.mpr c37
            have c37b1 : (x11_3 != x7_1) = false := bne_eq_false_iff_eq.mpr c37
            clear c37
            by_cases c38 : x318001_3.length < 17592186044416
            ·
             rw [if_pos c38] at H
             have LMc38 := Aside0.mk c38
             clear c38
             obtain ⟨y318, hy318⟩ : ∃ y_ : List Int, y_ = (x318001_3 ++ [x11_3]) := ⟨_, rfl⟩
             replace H : (linkhouseref7_Loops.l2 k3 l0 a1 t307 x6_1 x7_1 x8_2 (wrap64 (x11_3 + 1)) x7_1 y318) = some r := by first | (rw [hy318]; with_reducible exact H) | (have H2_ := (Option.bind_some _ _).symm.trans H; rw [hy318]; with_reducible exact H2_) | (have H2_ := (Option.bind_some _ _).symm.trans H; with_reducible exact H2_) | with_reducible exact H | (rw [hy318]; exact H) | exact H
             have Ny318 := Aside0.mk hy318
             clear hy318
             have H' := Aside0.mk H
             clear H
             obtain ⟨hcz39_0, hcz39_1, hfz39_0, hfz39_1⟩ := cz2_ BK317
             go_wp2_with (first | ((with_reducible refine gate_builtin (b := .append) (xs := #[.tmp 102, .tmp 104]) rfl ?_); at_builtin; refine Kd.R_append (Kd.int .i64) (w0 := w) w.heap.size rfl (.tmp 102) (.tmp 104) 22 3 (.int .i64 0) 8 rfl Try.underlying22 info3 rfl (by decide) (by omega) u318001 x318001_3 x11_3 [.int .i64 x11_3] (fun k_ => some k_ ≠ (.slice Ao33 x8_2.length co33 : Value).ownBlock) (fun _ => False) rfl rfl ?aP (fun _ hk => hk.elim) ?aF ?aO ?aB ?aS ?aL ?_; (case aP => exact rfl); (case aB => exact (bw_ HB)); (case aF => exact (fun k_ hk => Kd.fresh' (Kd.R_lt (by (with_reducible repeat (first | apply Kd.R_alloc | apply Kd.R_drewN | apply Kd.R_drew)); exact HO_8.out)) k_ hk)); (case aO => exact (by (with_reducible repeat (first | apply Kd.R_alloc | apply Kd.R_drewN | apply Kd.R_drew)); exact HO_318001.out)); (case aS => exact (below_size (bw_ HB))); (case aL => have := LMc38.out; omega); intro v319 w40 ho hb hg hat; rw [← Ny318.out] at ho; have n0_ := Aside0.mk (Kd.R_over' (by (with_reducible repeat (first | apply Kd.R_alloc | apply Kd.R_drewN | apply Kd.R_drew)); exact HO_5.out) (Kd.R_typed (by (with_reducible repeat (first | apply Kd.R_alloc | apply Kd.R_drewN | apply Kd.R_drew)); exact HO_318001.out)) (by decide) hg); have n1_ := Aside0.mk (Kd.S_after (ok := (fun k_ => some k_ ≠ (.slice Ao33 x8_2.length co33 : Value).ownBlock ∧ k_ ≠ gb317)) (by (with_reducible repeat (first | apply Kd.S_alloc | apply Kd.S_drewN | apply Kd.S_drew)); exact Kd.S_mono HO_6.out (fun _ hk => ⟨⟨hk.1, hk.2.2⟩, hk.2.1⟩)) hg hat); have n2_ := Aside0.mk (Kd.R_after (ok := (fun _ => True)) (by (with_reducible repeat (first | apply Kd.R_alloc | apply Kd.R_drewN | apply Kd.R_drew)); exact Kd.R_mono HO_8.out (fun _ hk => ⟨trivial, hk⟩)) hg hat); have n3_ := Aside0.mk (blk_grown (g := gb317) (o := .cells #[.int .i64 x7_1, u318001] 68 (0, 0)) (bk_ BK317) hg (Kd.R_ne HO_318001.out BK317.out (by decide))); have n4_ := Aside0.mk (hb); have n5_ := Aside0.mk (ho); clear HO_5; clear HO_6; clear HO_8; clear BK317; clear HB; clear HO_318001; have HO_5 := n0_; have HO_6 := n1_; have HO_8 := n2_; have BK317 := n3_; have HB := n4_; have HO320 := n5_; clear n0_ n1_ n2_ n3_ n4_ n5_; clear ho hb hg hat; obtain ⟨Ao41, co41, eo41⟩ := Kd.R_slice HO320.out; subst eo41; obtain ⟨hcz42_0, hcz42_1, hfz42_0, hfz42_1⟩ := cz2_ BK317))
             go_roundg k3
             case measure => have := HK1.out; have := HK2.out; have := HK3.out; omega
             case rel => exact ⟨(wrap64 (x11_3 + 1)), (y318), (.slice Ao41 y318.length co41), rs_, H', ⟨by have := HK1.out; have := HK2.out; have := HK3.out; omega⟩, ⟨by (with_reducible repeat (first | apply Kd.R_alloc | apply Kd.R_drewN | apply Kd.R_drew)); exact Kd.R_mono (Kd.R_far (p := ⟨gb317, 1, none⟩) (Kd.R_types HO_5.out BK317.out (by decide)) (fun _ hk => hk.2) (.slice Ao41 y318.length co41)) (fun _ hk => trivial)⟩, ⟨by (with_reducible repeat (first | apply Kd.S_alloc | apply Kd.S_drewN | apply Kd.S_drew)); exact Kd.S_mono (Kd.S_far (p := ⟨gb317, 1, none⟩) (Kd.S_mono HO_6.out (fun k_ hk => (⟨hk, hk.1.2⟩ : _ ∧ k_ ≠ gb317))) (fun _ hk => hk.2) (.slice Ao41 y318.length co41)) (fun _ hk => ⟨hk.1.1.1, ⟨hk.1.2, hk.1.1.2⟩⟩)⟩, ⟨by (with_reducible repeat (first | apply Kd.R_alloc | apply Kd.R_drewN | apply Kd.R_drew)); exact Kd.R_mono (Kd.R_far (p := ⟨gb317, 1, none⟩) (Kd.R_types HO_8.out BK317.out (by decide)) (fun _ hk => hk.2) (.slice Ao41 y318.length co41)) (fun _ hk => hk.1.2)⟩, ⟨by (with_reducible repeat (first | apply Kd.R_alloc | apply Kd.R_drewN | apply Kd.R_drew)); exact Kd.R_mono (Kd.R_far (p := ⟨gb317, 1, none⟩) (Kd.R_types HO320.out BK317.out (by decide)) (fun _ hk => hk.2) (.slice Ao41 y318.length co41)) (fun _ hk => hk.1)⟩, ⟨by (with_reducible repeat (first | refine blk_drewN ?_ _ | refine blk_drew ?_ | refine blk_alloc ?_ _)); refine blk_put (cs := #[.int .i64 x7_1, u318001]) ?_ 1 _ rfl; (with_reducible repeat (first | refine blk_drewN ?_ _ | refine blk_drew ?_ | refine blk_alloc ?_ _)); exact BK317.out⟩, ⟨bw_ HB⟩⟩
            ·
             rw [if_neg c38] at H
             exact absurd H (by simp)
           ·
            rw [if_neg c37] at H
            have c37b0 : (x11_3 == x7_1) = false := beq_eq_false_iff_ne.mpr c37
            have c37b1 : (x11_3 != x7_1) = true := bne_iff_ne.mpr c37
            by_cases c43 : 0 ≤ x11_3
            ·
             rw [if_pos c43] at H
             have c43b0 : decide (0 ≤ x11_3) = true := decide_eq_true c43
             clear c43
             by_cases c44 : x11_3 < (t307.length : Int)
             ·
              rw [if_pos c44] at H
              have c44b0 : decide (x11_3 < (t307.length : Int)) = true := decide_eq_true c44
              clear c44
              obtain ⟨bq45, hbq45⟩ : ∃ b_ : Bool, b_ = (rdOf false t307 x11_3) := ⟨_, rfl⟩
              replace H : (if bq45 = true then ((linkhouseref7_Reached.f k3 l0 x11_3 x7_1).bind fun t322 => (linkhouseref7_Loops.l3 k3 l0 a1 t307 x6_1 x7_1 x8_2 x11_3 (x11_3 == x7_1) t322 0 x7_1 x318001_3)) else (linkhouseref7_Loops.l2 k3 l0 a1 t307 x6_1 x7_1 x8_2 (wrap64 (x11_3 + 1)) x7_1 x318001_3)) = some r := by rw [← hbq45] at H; exact H
              have Nbq45 := Aside0.mk hbq45
              clear hbq45
              by_cases c46 : bq45 = true
              ·
               subst c46
               have H1 : ((linkhouseref7_Reached.f k3 l0 x11_3 x7_1).bind fun t322 => (linkhouseref7_Loops.l3 k3 l0 a1 t307 x6_1 x7_1 x8_2 x11_3 (x11_3 == x7_1) t322 0 x7_1 x318001_3)) = some r := by rw [if_pos rfl] at H; exact H
               clear H
               have H := H1
               clear H1
               replace H := Option.bind_eq_some_iff.mp H
               obtain ⟨t322, A470, H⟩ := H
               replace H : (linkhouseref7_Loops.l3 k3 l0 a1 t307 x6_1 x7_1 x8_2 x11_3 (x11_3 == x7_1) t322 0 x7_1 x318001_3) = some r := H
               have A47 := Aside0.mk A470
               clear A470
               have H' := Aside0.mk H
               clear H
               obtain ⟨Ao48, co48, eo48⟩ := Kd.R_slice HO_5.out
               subst eo48
               have p321 : 0 ≤ (x11_3 : Int) := of_decide_eq_true (by first | (with_reducible assumption) | assumption)
               have q321 : x11_3 < (t307.length : Int) := of_decide_eq_true (by first | (with_reducible assumption) | assumption)
               obtain ⟨ad321, e321, hx321_0⟩ := Kd.at_bool (Kd.R_reads' HO_5.out).2.2 x11_3 p321 q321
               (try rw [← Nbq45.out] at hx321_0)
               cases e321
               replace p321 := eq_true p321
               replace q321 := eq_true q321
               go_wp2_with (first | ((with_reducible refine gate_callee (f := 31) rfl ?_); refine goesL_ (some 83) rfl rfl Try.func31 (by kernel_rfl) rfl #[.slice A0 l0.length c0, .int .i64 x11_3, .int .i64 x7_1] rfl ar_ ?_; (with_reducible refine (linkhouseref7_Reached.calls k3 _ _ l0 x11_3 x7_1 t322 _ ?side1 ?side2 A47.out).mono ?_); (case side1 => exact cb_ HR0 HB); (case side2 => exact HC0.out); rintro e w49 ⟨v323, rfl, ho0, hb⟩; refine ⟨_, rfl, ?_⟩; have n0_ := Aside0.mk (Kd.R_elder' (by (with_reducible repeat (first | apply Kd.R_alloc | apply Kd.R_drewN | apply Kd.R_drew)); exact HO_5.out) (Kd.R_base ho0) hb); have n1_ := Aside0.mk (Kd.S_below (by (with_reducible repeat (first | apply Kd.S_alloc | apply Kd.S_drewN | apply Kd.S_drew)); exact HO_6.out) hb); have n2_ := Aside0.mk (Kd.R_below (by (with_reducible repeat (first | apply Kd.R_alloc | apply Kd.R_drewN | apply Kd.R_drew)); exact HO_8.out) hb); have n3_ := Aside0.mk (Kd.R_below (by (with_reducible repeat (first | apply Kd.R_alloc | apply Kd.R_drewN | apply Kd.R_drew)); exact HO_318001.out) hb); have n4_ := Aside0.mk (Kd.R_lower (Kd.R_new' ho0 (Kd.R_lt (by (with_reducible repeat (first | apply Kd.R_alloc | apply Kd.R_drewN | apply Kd.R_drew)); exact HO_5.out))) (below_size (bw_ HB))); have n5_ := Aside0.mk (blk_below (g := gb317) (o := .cells #[.int .i64 x7_1, u318001] 68 (0, 0)) (bk_ BK317) hb); have n6_ := Aside0.mk (below_step (bw_ HB) hb); clear HO_5; clear HO_6; clear HO_8; clear HO_318001; clear BK317; clear HB; have HO_5 := n0_; have HO_6 := n1_; have HO_8 := n2_; have HO_318001 := n3_; have HO324 := n4_; have BK317 := n5_; have HB := n6_; clear n0_ n1_ n2_ n3_ n4_ n5_ n6_; (try clear hb); (try clear hb2); (try clear hk); (try clear hi); (try clear ho0)))
               go_loopg [12, 14] k3 (fun kq v12 v14 w' => ∃ (x12_4 : Bool) (x14_4 : Int), v12 = .bool x12_4 ∧ v14 = .int .i64 x14_4 ∧ Aside0 (linkhouseref7_Loops.l3 kq l0 a1 t307 x6_1 x7_1 x8_2 x11_3 x12_4 t322 x14_4 x7_1 x318001_3 = some r) ∧ Aside0 (kq ≤ k3) ∧ Aside0 (Kd.R Kd.bool 4 w' w.heap.size (fun k_ => some k_ ≠ (v323 : Value).ownBlock) (.slice (some ad321) t307.length co48) t307) ∧ Aside0 (Kd.S k68 68 w' w.heap.size (fun k_ => some k_ ≠ ((.slice Ao33 x8_2.length co33) : Value).ownBlock ∧ some k_ ≠ (u318001 : Value).ownBlock ∧ k_ ≠ gb317) u6 x6_1) ∧ Aside0 (Kd.R (Kd.int .i64) 3 w' w.heap.size (fun k_ => some k_ ≠ (u318001 : Value).ownBlock) (.slice Ao33 x8_2.length co33) x8_2) ∧ Aside0 (Kd.R Kd.bool 4 w' w.heap.size (fun k_ => some k_ ≠ ((.slice (some ad321) t307.length co48) : Value).ownBlock) v323 t322) ∧ Aside0 (Kd.R (Kd.int .i64) 3 w' w.heap.size (fun k_ => some k_ ≠ ((.slice Ao33 x8_2.length co33) : Value).ownBlock) u318001 x318001_3) ∧ Aside0 (w'.heap[gb317]? = some (.cells #[.int .i64 x7_1, u318001] 68 (0, 0))) ∧ Aside0 (Below w.heap.size w w'))
               case atStart => exact ⟨((x11_3 == x7_1)), (0), rs_, rs_, H', ⟨Nat.le_refl _⟩, ⟨by (with_reducible repeat (first | apply Kd.R_alloc | apply Kd.R_drewN | apply Kd.R_drew)); exact Kd.R_mono HO_5.out (fun _ hk => hk.2)⟩, ⟨by (with_reducible repeat (first | apply Kd.S_alloc | apply Kd.S_drewN | apply Kd.S_drew)); exact HO_6.out⟩, ⟨by (with_reducible repeat (first | apply Kd.R_alloc | apply Kd.R_drewN | apply Kd.R_drew)); exact HO_8.out⟩, ⟨by (with_reducible repeat (first | apply Kd.R_alloc | apply Kd.R_drewN | apply Kd.R_drew)); exact Kd.R_mono HO324.out (fun _ hk => hk.2)⟩, ⟨by (with_reducible repeat (first | apply Kd.R_alloc | apply Kd.R_drewN | apply Kd.R_drew)); exact HO_318001.out⟩, ⟨bk_ BK317⟩, ⟨bw_ HB⟩⟩
               case round =>
                clear H'
                (try clear c1); (try clear q1); (try clear c2); (try clear p2); (try clear c3); (try clear p3); (try clear q3); (try clear hx3); (try clear c4); (try clear q4); (try clear c5); (try clear c5b0); (try clear c6); (try clear c6b0); (try clear p6); (try clear c7); (try clear c7b0); (try clear c8); (try clear c8b0); (try clear q9); (try clear c10); (try clear c11); (try clear c11b0); (try clear c12); (try clear c12b0); (try clear q13); (try clear c14); (try clear c16); (try clear c18); (try clear c19); (try clear c26); (try clear c31); (try clear c31b0); (try clear c31b1); (try clear c31b2); (try clear p31); (try clear q31); (try clear hx31); (try clear p32); (try clear q32); (try clear hx32); (try clear c36); (try clear c36b0); (try clear c37); (try clear c37b0); (try clear c37b1); (try clear c38); (try clear c43); (try clear c43b0); (try clear c44); (try clear c44b0); (try clear q45); (try clear c46); (try clear hcz35_0); (try clear hcz35_1); (try clear hcz39_0); (try clear hcz39_1); (try clear hcz42_0); (try clear hcz42_1); (try clear hfz35_0); (try clear hfz35_1); (try clear hfz39_0); (try clear hfz39_1); (try clear hfz42_0); (try clear hfz42_1); (try clear hx310_0); (try clear hx311_0); (try clear hx321_0); (try clear p2); (try clear p3); (try clear p31); (try clear p310); (try clear p311); (try clear p321); (try clear p6); (try clear q1); (try clear q13); (try clear q3); (try clear q31); (try clear q310); (try clear q311); (try clear q321); (try clear q9)
                obtain ⟨x12_4, x14_4, rfl, rfl, HA, HK4, HO_5, HO_6, HO_8, HO_13, HO_318001, BK317, HB⟩ := hrel
                cases gk with
                | zero => exact absurd HA.out (by simp [linkhouseref7_Loops.l3])
                | succ k4 =>
                 have H := HA.out
                 clear HA
                 simp only [linkhouseref7_Loops.l3] at H
                 by_cases c50 : x14_4 < (x8_2.length : Int)
                 ·
                  rw [if_pos c50] at H
                  have c50b0 : decide (x14_4 < (x8_2.length : Int)) = true := decide_eq_true c50
                  clear c50
                  by_cases c51 : x12_4 = true
                  ·
                   subst c51
                   have H1 : (linkhouseref7_Loops.l3 k4 l0 a1 t307 x6_1 x7_1 x8_2 x11_3 true t322 (wrap64 (x14_4 + 1)) x7_1 x318001_3) = some r := by rw [if_pos rfl] at H; exact H
                   clear H
                   have H := H1
                   clear H1
                   have H' := Aside0.mk H
                   clear H
                   go_wp2
                   go_roundg k4
                   case measure => have := HK1.out; have := HK2.out; have := HK3.out; have := HK4.out; omega
                   case rel => exact ⟨(true), (wrap64 (x14_4 + 1)), rs_, rs_, H', ⟨by have := HK1.out; have := HK2.out; have := HK3.out; have := HK4.out; omega⟩, ⟨by (with_reducible repeat (first | apply Kd.R_alloc | apply Kd.R_drewN | apply Kd.R_drew)); exact HO_5.out⟩, ⟨by (with_reducible repeat (first | apply Kd.S_alloc | apply Kd.S_drewN | apply Kd.S_drew)); exact HO_6.out⟩, ⟨by (with_reducible repeat (first | apply Kd.R_alloc | apply Kd.R_drewN | apply Kd.R_drew)); exact HO_8.out⟩, ⟨by (with_reducible repeat (first | apply Kd.R_alloc | apply Kd.R_drewN | apply Kd.R_drew)); exact HO_13.out⟩, ⟨by (with_reducible repeat (first | apply Kd.R_alloc | apply Kd.R_drewN | apply Kd.R_drew)); exact HO_318001.out⟩, ⟨bk_ BK317⟩, ⟨bw_ HB⟩⟩
                  ·
                   replace c51 := Bool.eq_false_iff.mpr c51
                   subst c51
                   have H1 : (if 0 ≤ x14_4 then (if 0 ≤ (rd x8_2 x14_4) then (if (rd x8_2 x14_4) < (t322.length : Int) then (linkhouseref7_Loops.l3 k4 l0 a1 t307 x6_1 x7_1 x8_2 x11_3 (rdOf false t322 (rd x8_2 x14_4)) t322 (wrap64 (x14_4 + 1)) x7_1 x318001_3) else (none)) else (none)) else (none)) = some r := by rw [if_neg (show ¬ (false = true) by decide)] at H; exact H
                   clear H
                   have H := H1
                   clear H1
                   by_cases c52 : 0 ≤ x14_4
                   ·
                    rw [if_pos c52] at H
                    have c52b0 : decide (0 ≤ x14_4) = true := decide_eq_true c52
                    clear c52
                    by_cases c53 : 0 ≤ (rd x8_2 x14_4)
                    ·
                     rw [if_pos c53] at H
                     have c53b0 : decide (0 ≤ (rd x8_2 x14_4)) = true := decide_eq_true c53
                     clear c53
                     by_cases c54 : (rd x8_2 x14_4) < (t322.length : Int)
                     ·
                      rw [if_pos c54] at H
                      have c54b0 : decide ((rd x8_2 x14_4) < (t322.length : Int)) = true := decide_eq_true c54
                      clear c54
                      have H' := Aside0.mk H
                      clear H
                      have p325 : 0 ≤ (x14_4 : Int) := of_decide_eq_true (by first | (with_reducible assumption) | assumption)
                      have q325 : x14_4 < (x8_2.length : Int) := of_decide_eq_true (by first | (with_reducible assumption) | assumption)
                      obtain ⟨ad325, e325, hx325_0⟩ := Kd.at_int (Kd.R_reads' HO_8.out).2.2 x14_4 p325 q325
                      cases e325
                      replace p325 := eq_true p325
                      replace q325 := eq_true q325
                      obtain ⟨Ao55, co55, eo55⟩ := Kd.R_slice HO_13.out
                      subst eo55
                      have p326 : 0 ≤ ((rd x8_2 x14_4) : Int) := of_decide_eq_true (by first | (with_reducible assumption) | assumption)
                      have q326 : (rd x8_2 x14_4) < (t322.length : Int) := of_decide_eq_true (by first | (with_reducible assumption) | assumption)
                      obtain ⟨ad326, e326, hx326_0⟩ := Kd.at_bool (Kd.R_reads' HO_13.out).2.2 (rd x8_2 x14_4) p326 q326
                      (try rw [← Nbq45.out] at hx326_0)
                      cases e326
                      replace p326 := eq_true p326
                      replace q326 := eq_true q326
                      go_wp2
                      go_roundg k4
                      case measure => have := HK1.out; have := HK2.out; have := HK3.out; have := HK4.out; omega
                      case rel => exact ⟨(rdOf false t322 (rd x8_2 x14_4)), (wrap64 (x14_4 + 1)), rs_, rs_, H', ⟨by have := HK1.out; have := HK2.out; have := HK3.out; have := HK4.out; omega⟩, ⟨by (with_reducible repeat (first | apply Kd.R_alloc | apply Kd.R_drewN | apply Kd.R_drew)); exact HO_5.out⟩, ⟨by (with_reducible repeat (first | apply Kd.S_alloc | apply Kd.S_drewN | apply Kd.S_drew)); exact HO_6.out⟩, ⟨by (with_reducible repeat (first | apply Kd.R_alloc | apply Kd.R_drewN | apply Kd.R_drew)); exact HO_8.out⟩, ⟨by (with_reducible repeat (first | apply Kd.R_alloc | apply Kd.R_drewN | apply Kd.R_drew)); exact HO_13.out⟩, ⟨by (with_reducible repeat (first | apply Kd.R_alloc | apply Kd.R_drewN | apply Kd.R_drew)); exact HO_318001.out⟩, ⟨bk_ BK317⟩, ⟨bw_ HB⟩⟩
                     ·
                      rw [if_neg c54] at H
                      exact absurd H (by simp)
                    ·
                     rw [if_neg c53] at H
                     exact absurd H (by simp)
                   ·
                    rw [if_neg c52] at H
                    exact absurd H (by simp)
                 ·
                  rw [if_neg c50] at H
                  have c50b0 : decide (x14_4 < (x8_2.length : Int)) = false := decide_eq_false c50
                  clear c50
                  by_cases c56 : x12_4 = true
                  ·
                   subst c56
                   have H1 : (if x318001_3.length < 17592186044416 then (linkhouseref7_Loops.l2 k4 l0 a1 t307 x6_1 x7_1 x8_2 (wrap64 (x11_3 + 1)) x7_1 (x318001_3 ++ [x11_3])) else (none)) = some r := by rw [if_pos rfl] at H; exact H
                   clear H
                   have H := H1
                   clear H1
                   by_cases c57 : x318001_3.length < 17592186044416
                   ·
                    rw [if_pos c57] at H
                    have LMc57 := Aside0.mk c57
                    clear c57
                    obtain ⟨y327, hy327⟩ : ∃ y_ : List Int, y_ = (x318001_3 ++ [x11_3]) := ⟨_, rfl⟩
                    replace H : (linkhouseref7_Loops.l2 k4 l0 a1 t307 x6_1 x7_1 x8_2 (wrap64 (x11_3 + 1)) x7_1 y327) = some r := by first | (rw [hy327]; with_reducible exact H) | (have H2_ := (Option.bind_some _ _).symm.trans H; rw [hy327]; with_reducible exact H2_) | (have H2_ := (Option.bind_some _ _).symm.trans H; with_reducible exact H2_) | with_reducible exact H | (rw [hy327]; exact H) | exact H
                    have Ny327 := Aside0.mk hy327
                    clear hy327
                    have H' := Aside0.mk H
                    clear H
                    obtain ⟨hcz58_0, hcz58_1, hfz58_0, hfz58_1⟩ := cz2_ BK317
                    go_wp2_with (first | ((with_reducible refine gate_builtin (b := .append) (xs := #[.tmp 102, .tmp 104]) rfl ?_); at_builtin; refine Kd.R_append (Kd.int .i64) (w0 := w) w.heap.size rfl (.tmp 102) (.tmp 104) 22 3 (.int .i64 0) 8 rfl Try.underlying22 info3 rfl (by decide) (by omega) u318001 x318001_3 x11_3 [.int .i64 x11_3] (fun k_ => some k_ ≠ (.slice Ao33 x8_2.length co33 : Value).ownBlock) (fun _ => False) rfl rfl ?aP (fun _ hk => hk.elim) ?aF ?aO ?aB ?aS ?aL ?_; (case aP => exact rfl); (case aB => exact (bw_ HB)); (case aF => exact (fun k_ hk => Kd.fresh' (Kd.R_lt (by (with_reducible repeat (first | apply Kd.R_alloc | apply Kd.R_drewN | apply Kd.R_drew)); exact HO_8.out)) k_ hk)); (case aO => exact (by (with_reducible repeat (first | apply Kd.R_alloc | apply Kd.R_drewN | apply Kd.R_drew)); exact HO_318001.out)); (case aS => exact (below_size (bw_ HB))); (case aL => have := LMc57.out; omega); intro v328 w59 ho hb hg hat; rw [← Ny327.out] at ho; have n0_ := Aside0.mk (Kd.R_over' (by (with_reducible repeat (first | apply Kd.R_alloc | apply Kd.R_drewN | apply Kd.R_drew)); exact HO_5.out) (Kd.R_typed (by (with_reducible repeat (first | apply Kd.R_alloc | apply Kd.R_drewN | apply Kd.R_drew)); exact HO_318001.out)) (by decide) hg); have n1_ := Aside0.mk (Kd.S_after (ok := (fun k_ => some k_ ≠ (.slice Ao33 x8_2.length co33 : Value).ownBlock ∧ k_ ≠ gb317)) (by (with_reducible repeat (first | apply Kd.S_alloc | apply Kd.S_drewN | apply Kd.S_drew)); exact Kd.S_mono HO_6.out (fun _ hk => ⟨⟨hk.1, hk.2.2⟩, hk.2.1⟩)) hg hat); have n2_ := Aside0.mk (Kd.R_after (ok := (fun _ => True)) (by (with_reducible repeat (first | apply Kd.R_alloc | apply Kd.R_drewN | apply Kd.R_drew)); exact Kd.R_mono HO_8.out (fun _ hk => ⟨trivial, hk⟩)) hg hat); have n3_ := Aside0.mk (Kd.R_over' (by (with_reducible repeat (first | apply Kd.R_alloc | apply Kd.R_drewN | apply Kd.R_drew)); exact HO_13.out) (Kd.R_typed (by (with_reducible repeat (first | apply Kd.R_alloc | apply Kd.R_drewN | apply Kd.R_drew)); exact HO_318001.out)) (by decide) hg); have n4_ := Aside0.mk (blk_grown (g := gb317) (o := .cells #[.int .i64 x7_1, u318001] 68 (0, 0)) (bk_ BK317) hg (Kd.R_ne HO_318001.out BK317.out (by decide))); have n5_ := Aside0.mk (hb); have n6_ := Aside0.mk (ho); clear HO_5; clear HO_6; clear HO_8; clear HO_13; clear BK317; clear HB; clear HO_318001; have HO_5 := n0_; have HO_6 := n1_; have HO_8 := n2_; have HO_13 := n3_; have BK317 := n4_; have HB := n5_; have HO329 := n6_; clear n0_ n1_ n2_ n3_ n4_ n5_ n6_; clear ho hb hg hat; obtain ⟨Ao60, co60, eo60⟩ := Kd.R_slice HO329.out; subst eo60; obtain ⟨hcz61_0, hcz61_1, hfz61_0, hfz61_1⟩ := cz2_ BK317))
                    go_roundg k4
                    case measure => have := HK1.out; have := HK2.out; have := HK3.out; have := HK4.out; omega
                    case rel => exact ⟨(wrap64 (x11_3 + 1)), (y327), (.slice Ao60 y327.length co60), rs_, H', ⟨by have := HK1.out; have := HK2.out; have := HK3.out; have := HK4.out; omega⟩, ⟨by (with_reducible repeat (first | apply Kd.R_alloc | apply Kd.R_drewN | apply Kd.R_drew)); exact Kd.R_mono (Kd.R_far (p := ⟨gb317, 1, none⟩) (Kd.R_types HO_5.out BK317.out (by decide)) (fun _ hk => hk.2) (.slice Ao60 y327.length co60)) (fun _ hk => trivial)⟩, ⟨by (with_reducible repeat (first | apply Kd.S_alloc | apply Kd.S_drewN | apply Kd.S_drew)); exact Kd.S_mono (Kd.S_far (p := ⟨gb317, 1, none⟩) (Kd.S_mono HO_6.out (fun k_ hk => (⟨hk, hk.1.2⟩ : _ ∧ k_ ≠ gb317))) (fun _ hk => hk.2) (.slice Ao60 y327.length co60)) (fun _ hk => ⟨hk.1.1.1, ⟨hk.1.2, hk.1.1.2⟩⟩)⟩, ⟨by (with_reducible repeat (first | apply Kd.R_alloc | apply Kd.R_drewN | apply Kd.R_drew)); exact Kd.R_mono (Kd.R_far (p := ⟨gb317, 1, none⟩) (Kd.R_types HO_8.out BK317.out (by decide)) (fun _ hk => hk.2) (.slice Ao60 y327.length co60)) (fun _ hk => hk.1.2)⟩, ⟨by (with_reducible repeat (first | apply Kd.R_alloc | apply Kd.R_drewN | apply Kd.R_drew)); exact Kd.R_mono (Kd.R_far (p := ⟨gb317, 1, none⟩) (Kd.R_types HO329.out BK317.out (by decide)) (fun _ hk => hk.2) (.slice Ao60 y327.length co60)) (fun _ hk => hk.1)⟩, ⟨by (with_reducible repeat (first | refine blk_drewN ?_ _ | refine blk_drew ?_ | refine blk_alloc ?_ _)); refine blk_put (cs := #[.int .i64 x7_1, u318001]) ?_ 1 _ rfl; (with_reducible repeat (first | refine blk_drewN ?_ _ | refine blk_drew ?_ | refine blk_alloc ?_ _)); exact BK317.out⟩, ⟨bw_ HB⟩⟩
                   ·
                    rw [if_neg c57] at H
                    exact absurd H (by simp)
                  ·
                   replace c56 := Bool.eq_false_iff.mpr c56
                   subst c56
                   have H1 : (linkhouseref7_Loops.l2 k4 l0 a1 t307 x6_1 x7_1 x8_2 (wrap64 (x11_3 + 1)) x7_1 x318001_3) = some r := by rw [if_neg (show ¬ (false = true) by decide)] at H; exact H
                   clear H
                   have H := H1
                   clear H1
                   have H' := Aside0.mk H
                   clear H
                   go_wp2
                   go_roundg k4
                   case measure => have := HK1.out; have := HK2.out; have := HK3.out; have := HK4.out; omega
                   case rel => exact ⟨(wrap64 (x11_3 + 1)), (x318001_3), (u318001), rs_, H', ⟨by have := HK1.out; have := HK2.out; have := HK3.out; have := HK4.out; omega⟩, ⟨by (with_reducible repeat (first | apply Kd.R_alloc | apply Kd.R_drewN | apply Kd.R_drew)); exact Kd.R_mono HO_5.out (fun _ hk => trivial)⟩, ⟨by (with_reducible repeat (first | apply Kd.S_alloc | apply Kd.S_drewN | apply Kd.S_drew)); exact HO_6.out⟩, ⟨by (with_reducible repeat (first | apply Kd.R_alloc | apply Kd.R_drewN | apply Kd.R_drew)); exact HO_8.out⟩, ⟨by (with_reducible repeat (first | apply Kd.R_alloc | apply Kd.R_drewN | apply Kd.R_drew)); exact HO_318001.out⟩, ⟨bk_ BK317⟩, ⟨bw_ HB⟩⟩
              ·
               replace c46 := Bool.eq_false_iff.mpr c46
               subst c46
               have H1 : (linkhouseref7_Loops.l2 k3 l0 a1 t307 x6_1 x7_1 x8_2 (wrap64 (x11_3 + 1)) x7_1 x318001_3) = some r := by rw [if_neg (show ¬ (false = true) by decide)] at H; exact H
               clear H
               have H := H1
               clear H1
               have H' := Aside0.mk H
               clear H
               obtain ⟨Ao62, co62, eo62⟩ := Kd.R_slice HO_5.out
               subst eo62
               have p321 : 0 ≤ (x11_3 : Int) := of_decide_eq_true (by first | (with_reducible assumption) | assumption)
               have q321 : x11_3 < (t307.length : Int) := of_decide_eq_true (by first | (with_reducible assumption) | assumption)
               obtain ⟨ad321, e321, hx321_0⟩ := Kd.at_bool (Kd.R_reads' HO_5.out).2.2 x11_3 p321 q321
               (try rw [← Nbq45.out] at hx321_0)
               cases e321
               replace p321 := eq_true p321
               replace q321 := eq_true q321
               go_wp2
               go_roundg k3
               case measure => have := HK1.out; have := HK2.out; have := HK3.out; omega
               case rel => exact ⟨(wrap64 (x11_3 + 1)), (x318001_3), (u318001), rs_, H', ⟨by have := HK1.out; have := HK2.out; have := HK3.out; omega⟩, ⟨by (with_reducible repeat (first | apply Kd.R_alloc | apply Kd.R_drewN | apply Kd.R_drew)); exact HO_5.out⟩, ⟨by (with_reducible repeat (first | apply Kd.S_alloc | apply Kd.S_drewN | apply Kd.S_drew)); exact HO_6.out⟩, ⟨by (with_reducible repeat (first | apply Kd.R_alloc | apply Kd.R_drewN | apply Kd.R_drew)); exact HO_8.out⟩, ⟨by (with_reducible repeat (first | apply Kd.R_alloc | apply Kd.R_drewN | apply Kd.R_drew)); exact HO_318001.out⟩, ⟨bk_ BK317⟩, ⟨bw_ HB⟩⟩
             ·
              rw [if_neg c44] at H
              exact absurd H (by simp)
            ·
             rw [if_neg c43] at H
             exact absurd H (by simp)
          ·
           rw [if_neg c36] at H
           have c36b0 : decide (x11_3 < (l0.length : Int)) = false := decide_eq_false c36
           clear c36
           by_cases c63 : x6_1.length < 4398046511104
           ·
            rw [if_pos c63] at H
            have LMc63 := Aside0.mk c63
            clear c63
            obtain ⟨y330, hy330⟩ : ∃ y_ : List (S68), y_ = (x6_1 ++ [(⟨x7_1, x318001_3⟩ : S68)]) := ⟨_, rfl⟩
            replace H : (linkhouseref7_Loops.l0 k3 l0 a1 t307 y330 (wrap64 (x7_1 + 1))) = some r := by first | (rw [hy330]; with_reducible exact H) | (have H2_ := (Option.bind_some _ _).symm.trans H; rw [hy330]; with_reducible exact H2_) | (have H2_ := (Option.bind_some _ _).symm.trans H; with_reducible exact H2_) | with_reducible exact H | (rw [hy330]; exact H) | exact H
            have Ny330 := Aside0.mk hy330
            clear hy330
            have H' := Aside0.mk H
            clear H
            obtain ⟨hcz64_0, hcz64_1, hfz64_0, hfz64_1⟩ := cz2_ BK317
            obtain ⟨Ao66, co66, eo66⟩ := Kd.R_slice HO_318001.out
            subst eo66
            go_wp2_with (first | ((with_reducible refine gate_builtin (b := .append) (xs := #[.tmp 107, .tmp 109]) rfl ?_); at_builtin; refine Kd.S_append k68 (w0 := w) w.heap.size rfl (.tmp 107) (.tmp 109) 49 68 (.agg #[(.int .i64 0), (.slice none 0 0)]) 32 rfl Try.underlying49 info68 rfl (by decide) (by omega) u6 x6_1 (⟨x7_1, x318001_3⟩ : S68) [.int .i64 x7_1, .slice Ao66 x318001_3.length co66] (fun k_ => some k_ ≠ (.slice Ao33 x8_2.length co33 : Value).ownBlock ∧ k_ ≠ gb317) (fun k_ => some k_ = (.slice Ao66 x318001_3.length co66 : Value).ownBlock) rfl rfl ?aP (fun k_ hk_ => ((Kd.R_mono (ok' := fun k_ => ((fun k_ => some k_ ≠ (.slice Ao33 x8_2.length co33 : Value).ownBlock ∧ k_ ≠ gb317)) k_ ∧ some k_ ≠ (u6 : Value).ownBlock) (Kd.R_types (Kd.R_apart' (HO_318001.out) (Kd.S_typed HO_6.out) (by decide)) BK317.out (by decide)) (fun k_ hk => ⟨⟨hk.1.1, hk.2⟩, hk.1.2⟩))).1 k_ hk_.symm) ?aF ?aO ?aB ?aS ?aL ?_; (case aP => exact k68_mkM _ _ _ (⟨x7_1, x318001_3⟩ : S68) (Kd.R_mono (Kd.R_tight rfl (Kd.R_mono (ok' := fun k_ => ((fun k_ => some k_ ≠ (.slice Ao33 x8_2.length co33 : Value).ownBlock ∧ k_ ≠ gb317)) k_ ∧ some k_ ≠ (u6 : Value).ownBlock) (Kd.R_types (Kd.R_apart' (HO_318001.out) (Kd.S_typed HO_6.out) (by decide)) BK317.out (by decide)) (fun k_ hk => ⟨⟨hk.1.1, hk.2⟩, hk.1.2⟩))) (fun _ h_ => h_))); (case aB => exact (bw_ HB)); (case aF => exact (fun k_ hk => ⟨Kd.fresh' (Kd.R_lt (by (with_reducible repeat (first | apply Kd.R_alloc | apply Kd.R_drewN | apply Kd.R_drew)); exact HO_8.out)) k_ hk, Kd.freshB (g := gb317) (o := .cells #[.int .i64 x7_1, .slice Ao66 x318001_3.length co66] 68 (0, 0)) (bk_ BK317) k_ hk⟩)); (case aO => exact (by (with_reducible repeat (first | apply Kd.S_alloc | apply Kd.S_drewN | apply Kd.S_drew)); exact Kd.S_mono HO_6.out (fun k_ hk => ⟨⟨hk.1, hk.2.2⟩, fun e_ => hk.2.1 e_⟩))); (case aS => exact (below_size (bw_ HB))); (case aL => have := LMc63.out; omega); intro v331 w65 ho hb hg hat; rw [← Ny330.out] at ho; have n0_ := Aside0.mk (Kd.R_over' (by (with_reducible repeat (first | apply Kd.R_alloc | apply Kd.R_drewN | apply Kd.R_drew)); exact HO_5.out) (Kd.S_typed (by (with_reducible repeat (first | apply Kd.S_alloc | apply Kd.S_drewN | apply Kd.S_drew)); exact HO_6.out)) (by decide) hg); have n1_ := Aside0.mk (Kd.R_over' (by (with_reducible repeat (first | apply Kd.R_alloc | apply Kd.R_drewN | apply Kd.R_drew)); exact HO_8.out) (Kd.S_typed (by (with_reducible repeat (first | apply Kd.S_alloc | apply Kd.S_drewN | apply Kd.S_drew)); exact HO_6.out)) (by decide) hg); have n2_ := Aside0.mk (blk_grown (g := gb317) (o := .cells #[.int .i64 x7_1, .slice Ao66 x318001_3.length co66] 68 (0, 0)) (bk_ BK317) hg (Kd.S_away HO_6.out (fun _ hk => hk.2.2))); have n3_ := Aside0.mk (hb); have n4_ := Aside0.mk (ho); clear HO_5; clear HO_8; clear BK317; clear HB; clear HO_6; clear HO_318001; have HO_5 := n0_; have HO_8 := n1_; have BK317 := n2_; have HB := n3_; have HO332 := n4_; clear n0_ n1_ n2_ n3_ n4_; clear ho hb hg hat))
            go_roundg k3
            case measure => have := HK1.out; have := HK2.out; have := HK3.out; omega
            case rel => exact ⟨(y330), (wrap64 (x7_1 + 1)), rs_, H', ⟨by have := HK1.out; have := HK2.out; have := HK3.out; omega⟩, ⟨by (with_reducible repeat (first | apply Kd.R_alloc | apply Kd.R_drewN | apply Kd.R_drew)); exact HO_5.out⟩, ⟨by (with_reducible repeat (first | apply Kd.S_alloc | apply Kd.S_drewN | apply Kd.S_drew)); exact Kd.S_mono HO332.out (fun _ hk => trivial)⟩, ⟨bw_ HB⟩⟩
           ·
            rw [if_neg c63] at H
            exact absurd H (by simp)
   ·
    rw [if_neg c5] at H
    have c5b0 : decide (x7_1 < (l0.length : Int)) = false := decide_eq_false c5
    clear c5
    obtain rfl := Option.some.inj H
    go_wp2
    go_ret
    exact ⟨_, by first | rfl | (simp [errW_none, errW_some] <;> rfl) | (simp [*, errW_none, errW_some] <;> rfl), by (with_reducible repeat (first | apply Kd.S_alloc | apply Kd.S_drewN | apply Kd.S_drew)); exact HO_6.out, bw_ HB⟩

/-! ### linkhouselaw7_FlowLoopsMatchSpec: function 6 -/
set_option maxRecDepth 100000 in
def linkhouselaw7_FlowLoopsMatchSpec.f (k : Nat) (l0 : List (S62)) (a1 : Int) : Option (Bool) := (flow_Loops.f k l0 a1).bind fun bt333 => ((linkhouselaw7_fromFault.f k l0 a1).bind fun bt339 => (if bt339.1 = 0 then (if (l0.length : Int) > 12 then ((linkhouselaw7_crossed.f k).bind fun t342 => (some t342)) else (if bt333.2.1 = 0 then ((linkhouseref7_Loops.f k l0 a1).bind fun t343 => ((linkhouseref7_SameLoops.f k bt333.1 t343).bind fun t346 => (if t346 = true then ((linkhouselaw7_crossed.f k).bind fun t347 => (some t347)) else (some false)))) else (some false))) else (if (bt333.2.1 == bt339.1 && (bt333.2.2 == bt339.2)) = true then (if (bt333.1.length : Int) = 0 then ((linkhouselaw7_crossed.f k).bind fun t348 => (some t348)) else (some false)) else (some false))))
set_option maxRecDepth 100000 in
theorem linkhouselaw7_FlowLoopsMatchSpec.mono : ∀ a0 a1 k, LeO (linkhouselaw7_FlowLoopsMatchSpec.f k a0 a1) (linkhouselaw7_FlowLoopsMatchSpec.f (k + 1) a0 a1) := by
 intro a0 a1 k
 unfold linkhouselaw7_FlowLoopsMatchSpec.f
 repeat' first
   | (with_reducible exact flow_Loops.mono _ _ _)
   | (with_reducible exact linkhouselaw7_crossed.mono _)
   | (with_reducible exact linkhouselaw7_fromFault.mono _ _ _)
   | (with_reducible exact linkhouseref7_Loops.mono _ _ _)
   | (with_reducible exact linkhouseref7_SameLoops.mono _ _ _)
   | (with_reducible exact LeO.refl _)
   | (with_reducible exact LeO.none _)
   | (with_reducible refine LeO.ite ?_ ?_)
   | (with_reducible refine LeO.bind ?_ (fun _ => ?_))
   | exact flow_Loops.mono _ _ _
   | exact linkhouselaw7_crossed.mono _
   | exact linkhouselaw7_fromFault.mono _ _ _
   | exact linkhouseref7_Loops.mono _ _ _
   | exact linkhouseref7_SameLoops.mono _ _ _
   | exact LeO.none _
   | refine LeO.ite ?_ ?_
   | refine LeO.bind ?_ (fun _ => ?_)
set_option maxHeartbeats 8000000 in
set_option maxRecDepth 100000 in
theorem linkhouselaw7_FlowLoopsMatchSpec.calls (k : Nat) (A0 : Option Addr) (c0 : Nat) (l0 : List (S62)) (a1 : Int) (r : Bool) (w : World) (hr0 : Kd.C k62 w A0 l0.length l0) (hc0 : l0.length ≤ c0) (h : linkhouselaw7_FlowLoopsMatchSpec.f k l0 a1 = some r) :
  Calls Try.prog 6 #[.slice A0 l0.length c0, .int .i64 a1] w fun e w' => e = .returned (.bool r) ∧ Below w.heap.size w w' := by
 have hu28 := Try.underlying28
 have HR0 := Aside0.mk hr0
 have HC0 := Aside0.mk hc0
 clear hr0 hc0
 have HB := Aside0.mk (Below.refl w.heap.size w)
 have H : ((flow_Loops.f k l0 a1).bind fun bt333 => ((linkhouselaw7_fromFault.f k l0 a1).bind fun bt339 => (if bt339.1 = 0 then (if (l0.length : Int) > 12 then ((linkhouselaw7_crossed.f k).bind fun t342 => (some t342)) else (if bt333.2.1 = 0 then ((linkhouseref7_Loops.f k l0 a1).bind fun t343 => ((linkhouseref7_SameLoops.f k bt333.1 t343).bind fun t346 => (if t346 = true then ((linkhouselaw7_crossed.f k).bind fun t347 => (some t347)) else (some false)))) else (some false))) else (if (bt333.2.1 == bt339.1 && (bt333.2.2 == bt339.2)) = true then (if (bt333.1.length : Int) = 0 then ((linkhouselaw7_crossed.f k).bind fun t348 => (some t348)) else (some false)) else (some false))))) = some r := h
 clear h
 replace H := Option.bind_eq_some_iff.mp H
 obtain ⟨⟨t333, t336, t337⟩, A30, H⟩ := H
 replace H : ((linkhouselaw7_fromFault.f k l0 a1).bind fun bt339 => (if bt339.1 = 0 then (if (l0.length : Int) > 12 then ((linkhouselaw7_crossed.f k).bind fun t342 => (some t342)) else (if t336 = 0 then ((linkhouseref7_Loops.f k l0 a1).bind fun t343 => ((linkhouseref7_SameLoops.f k t333 t343).bind fun t346 => (if t346 = true then ((linkhouselaw7_crossed.f k).bind fun t347 => (some t347)) else (some false)))) else (some false))) else (if (t336 == bt339.1 && (t337 == bt339.2)) = true then (if (t333.length : Int) = 0 then ((linkhouselaw7_crossed.f k).bind fun t348 => (some t348)) else (some false)) else (some false)))) = some r := H
 have A3 := Aside0.mk A30
 clear A30
 replace H := Option.bind_eq_some_iff.mp H
 obtain ⟨⟨t339, t340⟩, A40, H⟩ := H
 replace H : (if t339 = 0 then (if (l0.length : Int) > 12 then ((linkhouselaw7_crossed.f k).bind fun t342 => (some t342)) else (if t336 = 0 then ((linkhouseref7_Loops.f k l0 a1).bind fun t343 => ((linkhouseref7_SameLoops.f k t333 t343).bind fun t346 => (if t346 = true then ((linkhouselaw7_crossed.f k).bind fun t347 => (some t347)) else (some false)))) else (some false))) else (if (t336 == t339 && (t337 == t340)) = true then (if (t333.length : Int) = 0 then ((linkhouselaw7_crossed.f k).bind fun t348 => (some t348)) else (some false)) else (some false))) = some r := H
 have A4 := Aside0.mk A40
 clear A40
 by_cases c5 : t339 = 0
 ·
  rw [if_pos c5] at H
  have c5b0 : (t339 == 0) = true := beq_iff_eq.mpr c5
  have c5b1 : (t339 != 0) = false := bne_eq_false_iff_eq.mpr c5
  clear c5
  by_cases c6 : (l0.length : Int) > 12
  ·
   rw [if_pos c6] at H
   have c6b0 : decide (12 < (l0.length : Int)) = true := decide_eq_true c6
   have c6b1 : decide (12 < l0.length) = true := decide_eq_true (by omega)
   clear c6
   replace H := Option.bind_eq_some_iff.mp H
   obtain ⟨t342, A70, H⟩ := H
   replace H : (some t342) = some r := H
   have A7 := Aside0.mk A70
   clear A70
   obtain rfl := Option.some.inj H
   go_enter Try.func6, Try.ntmps6
   go_wp2_with (first | ((with_reducible refine gate_callee (f := 24) rfl ?_); refine goesL_ (some 11) rfl rfl Try.func24 (by kernel_rfl) rfl #[.slice A0 l0.length c0, .int .i64 a1] rfl ar_ ?_; (with_reducible refine (flow_Loops.calls k _ _ l0 a1 t333 t336 t337 _ ?side1 ?side2 A3.out).mono ?_); (case side1 => repeat (first | exact HR0.out | (with_reducible refine Kd.C_alloc ?_ _) | (with_reducible refine Kd.C_drewN ?_ _) | (with_reducible refine Kd.C_drew ?_))); (case side2 => exact HC0.out); rintro e w8 ⟨v334, rfl, ho0, hb⟩; refine ⟨_, rfl, ?_⟩; have n0_ := Aside0.mk (Kd.S_lower ho0 (below_size (bw_ HB))); have n1_ := Aside0.mk (below_step (bw_ HB) hb); clear HB; have HO335 := n0_; have HB := n1_; clear n0_ n1_; (try clear hb); (try clear hb2); (try clear hk); (try clear hi); (try clear ho0)) | ((with_reducible refine gate_dst (N := 6) rfl ?_); (try (refine gate_guard (by rfl) ?_; dsimp only)); refine bx_ (N := 6) (cs := #[.int .i64 0, .int .i64 0]) (t := 28) ?_; intro gb338 hg w9 hbox hb; have n0_ := Aside0.mk (Kd.S_below (by (with_reducible repeat (first | apply Kd.S_alloc | apply Kd.S_drewN | apply Kd.S_drew)); exact HO335.out) hb); have n1_ := Aside0.mk (below_step (bw_ HB) hb); have n2_ := Aside0.mk (hbox); have n3_ := Aside0.mk ((by rw [hg]; exact (below_size (bw_ HB)) : w.heap.size ≤ gb338)); have n4_ := Aside0.mk ((by rw [hg]; exact (below_size (bw_ HB)) : w.heap.size ≤ gb338)); clear HO335; clear HB; have HO335 := n0_; have HB := n1_; have BK338 := n2_; have GW338 := n3_; have GE338 := n4_; clear n0_ n1_ n2_ n3_ n4_; clear hb hbox hg; obtain ⟨hcz10_0, hcz10_1, hfz10_0, hfz10_1⟩ := cz2_ BK338) | ((with_reducible refine gate_callee (f := 20) rfl ?_); refine goesL_ (some 16) rfl rfl Try.func20 (by kernel_rfl) rfl #[.slice A0 l0.length c0, .int .i64 a1] rfl ar_ ?_; (with_reducible refine (linkhouselaw7_fromFault.calls k _ _ l0 a1 t339 t340 _ ?side1 ?side2 A4.out).mono ?_); (case side1 => exact cb_ HR0 HB); (case side2 => exact HC0.out); rintro e w11 ⟨rfl, hb⟩; refine ⟨_, rfl, ?_⟩; have n0_ := Aside0.mk (Kd.S_below (by (with_reducible repeat (first | apply Kd.S_alloc | apply Kd.S_drewN | apply Kd.S_drew)); exact (Kd.S_mono (Kd.S_far (p := ⟨gb338, 1, none⟩) (Kd.S_far (p := ⟨gb338, 0, none⟩) (Kd.S_types HO335.out BK338.out (by decide)) (fun _ hk => hk.2) (.int .i64 t336)) (fun _ hk => hk.2) (.int .i64 t337)) (fun _ h_ => h_.1))) hb); have n1_ := Aside0.mk (blk_below (g := gb338) (o := .cells #[.int .i64 t336, .int .i64 t337] 28 (0, 0)) (bk_ BK338) hb); have n2_ := Aside0.mk (below_step (bw_ HB) hb); clear HO335; clear BK338; clear HB; have HO335 := n0_; have BK338 := n1_; have HB := n2_; clear n0_ n1_ n2_; (try clear hb); (try clear hb2); (try clear hk); (try clear hi)) | ((with_reducible refine gate_dst (N := 7) rfl ?_); (try (refine gate_guard (by rfl) ?_; dsimp only)); refine bx_ (N := 7) (cs := #[.int .i64 0, .int .i64 0]) (t := 28) ?_; intro gb341 hg w12 hbox hb; have n0_ := Aside0.mk (Kd.S_below (by (with_reducible repeat (first | apply Kd.S_alloc | apply Kd.S_drewN | apply Kd.S_drew)); exact HO335.out) hb); have n1_ := Aside0.mk (blk_below (g := gb338) (o := .cells #[.int .i64 t336, .int .i64 t337] 28 (0, 0)) (bk_ BK338) hb); have n2_ := Aside0.mk (below_step (bw_ HB) hb); have n3_ := Aside0.mk (hbox); have n4_ := Aside0.mk ((by rw [hg]; exact (below_size (bw_ HB)) : w.heap.size ≤ gb341)); have n5_ := Aside0.mk ((by rw [hg]; exact (below_size (bw_ HB)) : w.heap.size ≤ gb341)); have n6_ := Aside0.mk ((by rw [hg]; exact Nat.ne_of_lt (blk_lt (g := gb338) (o := .cells #[.int .i64 t336, .int .i64 t337] 28 (0, 0)) (bk_ BK338)) : gb338 ≠ gb341)); have n7_ := Aside0.mk ((by rw [hg]; exact Nat.ne_of_gt (blk_lt (g := gb338) (o := .cells #[.int .i64 t336, .int .i64 t337] 28 (0, 0)) (bk_ BK338)) : gb341 ≠ gb338)); clear HO335; clear BK338; clear HB; have HO335 := n0_; have BK338 := n1_; have HB := n2_; have BK341 := n3_; have GW341 := n4_; have GE341 := n5_; have NB338_341 := n6_; have NB341_338 := n7_; clear n0_ n1_ n2_ n3_ n4_ n5_ n6_ n7_; clear hb hbox hg; have hnb13 := NB341_338.out; have hnc13 := NB338_341.out; obtain ⟨hcz14_0, hcz14_1, hfz14_0, hfz14_1⟩ := cz2_ BK341) | (go_at_call 21; (with_reducible refine (linkhouselaw7_crossed.calls k  t342 _ A7.out).mono ?_); rintro e w15 ⟨rfl, hb⟩; have n0_ := Aside0.mk (Kd.S_below (by (with_reducible repeat (first | apply Kd.S_alloc | apply Kd.S_drewN | apply Kd.S_drew)); exact (Kd.S_mono (Kd.S_far (p := ⟨gb341, 1, none⟩) (Kd.S_far (p := ⟨gb341, 0, none⟩) (Kd.S_types HO335.out BK341.out (by decide)) (fun _ hk => hk.2) (.int .i64 t339)) (fun _ hk => hk.2) (.int .i64 t340)) (fun _ h_ => h_.1))) hb); have n1_ := Aside0.mk (blk_below (g := gb338) (o := .cells #[.int .i64 t336, .int .i64 t337] 28 (0, 0)) (bk_ BK338) hb); have n2_ := Aside0.mk (blk_below (g := gb341) (o := .cells #[.int .i64 t339, .int .i64 t340] 28 (0, 0)) (bk_ BK341) hb); have n3_ := Aside0.mk (below_step (bw_ HB) hb); clear HO335; clear BK338; clear BK341; clear HB; have HO335 := n0_; have BK338 := n1_; have BK341 := n2_; have HB := n3_; clear n0_ n1_ n2_ n3_; (try clear hb); (try clear hb2); (try clear hk); (try clear hi)))
   go_ret
   exact ⟨id_, bw_ HB⟩
  ·
   rw [if_neg c6] at H
   have c6b0 : decide (12 < (l0.length : Int)) = false := decide_eq_false c6
   have c6b1 : decide (12 < l0.length) = false := decide_eq_false (by omega)
   clear c6
   by_cases c16 : t336 = 0
   ·
    rw [if_pos c16] at H
    have c16b0 : (t336 == 0) = true := beq_iff_eq.mpr c16
    have c16b1 : (t336 != 0) = false := bne_eq_false_iff_eq.mpr c16
    clear c16
    replace H := Option.bind_eq_some_iff.mp H
    obtain ⟨t343, A170, H⟩ := H
    replace H : ((linkhouseref7_SameLoops.f k t333 t343).bind fun t346 => (if t346 = true then ((linkhouselaw7_crossed.f k).bind fun t347 => (some t347)) else (some false))) = some r := H
    have A17 := Aside0.mk A170
    clear A170
    replace H := Option.bind_eq_some_iff.mp H
    obtain ⟨t346, A180, H⟩ := H
    replace H : (if t346 = true then ((linkhouselaw7_crossed.f k).bind fun t347 => (some t347)) else (some false)) = some r := H
    have A18 := Aside0.mk A180
    clear A180
    by_cases c19 : t346 = true
    ·
     subst c19
     have H1 : ((linkhouselaw7_crossed.f k).bind fun t347 => (some t347)) = some r := by rw [if_pos rfl] at H; exact H
     clear H
     have H := H1
     clear H1
     replace H := Option.bind_eq_some_iff.mp H
     obtain ⟨t347, A200, H⟩ := H
     replace H : (some t347) = some r := H
     have A20 := Aside0.mk A200
     clear A200
     obtain rfl := Option.some.inj H
     go_enter Try.func6, Try.ntmps6
     go_wp2_with (first | ((with_reducible refine gate_callee (f := 24) rfl ?_); refine goesL_ (some 11) rfl rfl Try.func24 (by kernel_rfl) rfl #[.slice A0 l0.length c0, .int .i64 a1] rfl ar_ ?_; (with_reducible refine (flow_Loops.calls k _ _ l0 a1 t333 t336 t337 _ ?side1 ?side2 A3.out).mono ?_); (case side1 => repeat (first | exact HR0.out | (with_reducible refine Kd.C_alloc ?_ _) | (with_reducible refine Kd.C_drewN ?_ _) | (with_reducible refine Kd.C_drew ?_))); (case side2 => exact HC0.out); rintro e w21 ⟨v334, rfl, ho0, hb⟩; refine ⟨_, rfl, ?_⟩; have n0_ := Aside0.mk (Kd.S_lower ho0 (below_size (bw_ HB))); have n1_ := Aside0.mk (below_step (bw_ HB) hb); clear HB; have HO335 := n0_; have HB := n1_; clear n0_ n1_; (try clear hb); (try clear hb2); (try clear hk); (try clear hi); (try clear ho0)) | ((with_reducible refine gate_dst (N := 6) rfl ?_); (try (refine gate_guard (by rfl) ?_; dsimp only)); refine bx_ (N := 6) (cs := #[.int .i64 0, .int .i64 0]) (t := 28) ?_; intro gb338 hg w22 hbox hb; have n0_ := Aside0.mk (Kd.S_below (by (with_reducible repeat (first | apply Kd.S_alloc | apply Kd.S_drewN | apply Kd.S_drew)); exact HO335.out) hb); have n1_ := Aside0.mk (below_step (bw_ HB) hb); have n2_ := Aside0.mk (hbox); have n3_ := Aside0.mk ((by rw [hg]; exact (below_size (bw_ HB)) : w.heap.size ≤ gb338)); have n4_ := Aside0.mk ((by rw [hg]; exact (below_size (bw_ HB)) : w.heap.size ≤ gb338)); clear HO335; clear HB; have HO335 := n0_; have HB := n1_; have BK338 := n2_; have GW338 := n3_; have GE338 := n4_; clear n0_ n1_ n2_ n3_ n4_; clear hb hbox hg; obtain ⟨hcz23_0, hcz23_1, hfz23_0, hfz23_1⟩ := cz2_ BK338) | ((with_reducible refine gate_callee (f := 20) rfl ?_); refine goesL_ (some 16) rfl rfl Try.func20 (by kernel_rfl) rfl #[.slice A0 l0.length c0, .int .i64 a1] rfl ar_ ?_; (with_reducible refine (linkhouselaw7_fromFault.calls k _ _ l0 a1 t339 t340 _ ?side1 ?side2 A4.out).mono ?_); (case side1 => exact cb_ HR0 HB); (case side2 => exact HC0.out); rintro e w24 ⟨rfl, hb⟩; refine ⟨_, rfl, ?_⟩; have n0_ := Aside0.mk (Kd.S_below (by (with_reducible repeat (first | apply Kd.S_alloc | apply Kd.S_drewN | apply Kd.S_drew)); exact (Kd.S_mono (Kd.S_far (p := ⟨gb338, 1, none⟩) (Kd.S_far (p := ⟨gb338, 0, none⟩) (Kd.S_types HO335.out BK338.out (by decide)) (fun _ hk => hk.2) (.int .i64 t336)) (fun _ hk => hk.2) (.int .i64 t337)) (fun _ h_ => h_.1))) hb); have n1_ := Aside0.mk (blk_below (g := gb338) (o := .cells #[.int .i64 t336, .int .i64 t337] 28 (0, 0)) (bk_ BK338) hb); have n2_ := Aside0.mk (below_step (bw_ HB) hb); clear HO335; clear BK338; clear HB; have HO335 := n0_; have BK338 := n1_; have HB := n2_; clear n0_ n1_ n2_; (try clear hb); (try clear hb2); (try clear hk); (try clear hi)) | ((with_reducible refine gate_dst (N := 7) rfl ?_); (try (refine gate_guard (by rfl) ?_; dsimp only)); refine bx_ (N := 7) (cs := #[.int .i64 0, .int .i64 0]) (t := 28) ?_; intro gb341 hg w25 hbox hb; have n0_ := Aside0.mk (Kd.S_below (by (with_reducible repeat (first | apply Kd.S_alloc | apply Kd.S_drewN | apply Kd.S_drew)); exact HO335.out) hb); have n1_ := Aside0.mk (blk_below (g := gb338) (o := .cells #[.int .i64 t336, .int .i64 t337] 28 (0, 0)) (bk_ BK338) hb); have n2_ := Aside0.mk (below_step (bw_ HB) hb); have n3_ := Aside0.mk (hbox); have n4_ := Aside0.mk ((by rw [hg]; exact (below_size (bw_ HB)) : w.heap.size ≤ gb341)); have n5_ := Aside0.mk ((by rw [hg]; exact (below_size (bw_ HB)) : w.heap.size ≤ gb341)); have n6_ := Aside0.mk ((by rw [hg]; exact Nat.ne_of_lt (blk_lt (g := gb338) (o := .cells #[.int .i64 t336, .int .i64 t337] 28 (0, 0)) (bk_ BK338)) : gb338 ≠ gb341)); have n7_ := Aside0.mk ((by rw [hg]; exact Nat.ne_of_gt (blk_lt (g := gb338) (o := .cells #[.int .i64 t336, .int .i64 t337] 28 (0, 0)) (bk_ BK338)) : gb341 ≠ gb338)); clear HO335; clear BK338; clear HB; have HO335 := n0_; have BK338 := n1_; have HB := n2_; have BK341 := n3_; have GW341 := n4_; have GE341 := n5_; have NB338_341 := n6_; have NB341_338 := n7_; clear n0_ n1_ n2_ n3_ n4_ n5_ n6_ n7_; clear hb hbox hg; have hnb26 := NB341_338.out; have hnc26 := NB338_341.out; obtain ⟨hcz27_0, hcz27_1, hfz27_0, hfz27_1⟩ := cz2_ BK341; obtain ⟨hcz28_0, hcz28_1, hfz28_0, hfz28_1⟩ := cz2_ BK338) | (go_at_call 26; (with_reducible refine (linkhouseref7_Loops.calls k _ _ l0 a1 t343 _ ?side1 ?side2 A17.out).mono ?_); (case side1 => exact cb_ HR0 HB); (case side2 => exact HC0.out); rintro e w29 ⟨v344, rfl, ho0, hb⟩; have n0_ := Aside0.mk (Kd.S_elder' (by (with_reducible repeat (first | apply Kd.S_alloc | apply Kd.S_drewN | apply Kd.S_drew)); exact (Kd.S_mono (Kd.S_far (p := ⟨gb341, 1, none⟩) (Kd.S_far (p := ⟨gb341, 0, none⟩) (Kd.S_types HO335.out BK341.out (by decide)) (fun _ hk => hk.2) (.int .i64 t339)) (fun _ hk => hk.2) (.int .i64 t340)) (fun _ h_ => h_.1))) (Kd.S_base ho0) hb); have n1_ := Aside0.mk (Kd.S_lower (Kd.S_new' ho0 (Kd.S_lt (by (with_reducible repeat (first | apply Kd.S_alloc | apply Kd.S_drewN | apply Kd.S_drew)); exact (Kd.S_mono (Kd.S_far (p := ⟨gb341, 1, none⟩) (Kd.S_far (p := ⟨gb341, 0, none⟩) (Kd.S_types HO335.out BK341.out (by decide)) (fun _ hk => hk.2) (.int .i64 t339)) (fun _ hk => hk.2) (.int .i64 t340)) (fun _ h_ => h_.1))))) (below_size (bw_ HB))); have n2_ := Aside0.mk (blk_below (g := gb338) (o := .cells #[.int .i64 t336, .int .i64 t337] 28 (0, 0)) (bk_ BK338) hb); have n3_ := Aside0.mk (blk_below (g := gb341) (o := .cells #[.int .i64 t339, .int .i64 t340] 28 (0, 0)) (bk_ BK341) hb); have n4_ := Aside0.mk (below_step (bw_ HB) hb); clear HO335; clear BK338; clear BK341; clear HB; have HO335 := n0_; have HO345 := n1_; have BK338 := n2_; have BK341 := n3_; have HB := n4_; clear n0_ n1_ n2_ n3_ n4_; (try clear hb); (try clear hb2); (try clear hk); (try clear hi); (try clear ho0); obtain ⟨Ao30, co30, eo30⟩ := Kd.S_slice HO335.out; subst eo30; obtain ⟨Ao31, co31, eo31⟩ := Kd.S_slice HO345.out; subst eo31) | (go_at_call 25; (with_reducible refine (linkhouseref7_SameLoops.calls k _ _ t333 _ _ t343 true _ ?side1 ?side2 ?side3 ?side4 A18.out).mono ?_); (case side1 => repeat (first | exact (Kd.S_reads' HO335.out).2.2 | (with_reducible refine Kd.C_alloc ?_ _) | (with_reducible refine Kd.C_drewN ?_ _) | (with_reducible refine Kd.C_drew ?_))); (case side2 => exact (Kd.S_reads' HO335.out).2.1); (case side3 => repeat (first | exact (Kd.S_reads' HO345.out).2.2 | (with_reducible refine Kd.C_alloc ?_ _) | (with_reducible refine Kd.C_drewN ?_ _) | (with_reducible refine Kd.C_drew ?_))); (case side4 => exact (Kd.S_reads' HO345.out).2.1); rintro e w' ⟨rfl, ⟨nd, rfl⟩⟩) | (go_at_call 21; (with_reducible refine (linkhouselaw7_crossed.calls k  t347 _ A20.out).mono ?_); rintro e w32 ⟨rfl, hb⟩; have n0_ := Aside0.mk (Kd.S_below (by (with_reducible repeat (first | apply Kd.S_alloc | apply Kd.S_drewN | apply Kd.S_drew)); exact HO335.out) hb); have n1_ := Aside0.mk (Kd.S_below (by (with_reducible repeat (first | apply Kd.S_alloc | apply Kd.S_drewN | apply Kd.S_drew)); exact HO345.out) hb); have n2_ := Aside0.mk (blk_below (g := gb338) (o := .cells #[.int .i64 t336, .int .i64 t337] 28 (0, 0)) (bk_ BK338) hb); have n3_ := Aside0.mk (blk_below (g := gb341) (o := .cells #[.int .i64 t339, .int .i64 t340] 28 (0, 0)) (bk_ BK341) hb); have n4_ := Aside0.mk (below_step (bw_ HB) hb); clear HO335; clear HO345; clear BK338; clear BK341; clear HB; have HO335 := n0_; have HO345 := n1_; have BK338 := n2_; have BK341 := n3_; have HB := n4_; clear n0_ n1_ n2_ n3_ n4_; (try clear hb); (try clear hb2); (try clear hk); (try clear hi)))
     go_ret
     exact ⟨id_, bw_ HB⟩
    ·
     replace c19 := Bool.eq_false_iff.mpr c19
     subst c19
     have H1 : (some false) = some r := by rw [if_neg (show ¬ (false = true) by decide)] at H; exact H
     clear H
     have H := H1
     clear H1
     obtain rfl := Option.some.inj H
     go_enter Try.func6, Try.ntmps6
     go_wp2_with (first | ((with_reducible refine gate_callee (f := 24) rfl ?_); refine goesL_ (some 11) rfl rfl Try.func24 (by kernel_rfl) rfl #[.slice A0 l0.length c0, .int .i64 a1] rfl ar_ ?_; (with_reducible refine (flow_Loops.calls k _ _ l0 a1 t333 t336 t337 _ ?side1 ?side2 A3.out).mono ?_); (case side1 => repeat (first | exact HR0.out | (with_reducible refine Kd.C_alloc ?_ _) | (with_reducible refine Kd.C_drewN ?_ _) | (with_reducible refine Kd.C_drew ?_))); (case side2 => exact HC0.out); rintro e w33 ⟨v334, rfl, ho0, hb⟩; refine ⟨_, rfl, ?_⟩; have n0_ := Aside0.mk (Kd.S_lower ho0 (below_size (bw_ HB))); have n1_ := Aside0.mk (below_step (bw_ HB) hb); clear HB; have HO335 := n0_; have HB := n1_; clear n0_ n1_; (try clear hb); (try clear hb2); (try clear hk); (try clear hi); (try clear ho0)) | ((with_reducible refine gate_dst (N := 6) rfl ?_); (try (refine gate_guard (by rfl) ?_; dsimp only)); refine bx_ (N := 6) (cs := #[.int .i64 0, .int .i64 0]) (t := 28) ?_; intro gb338 hg w34 hbox hb; have n0_ := Aside0.mk (Kd.S_below (by (with_reducible repeat (first | apply Kd.S_alloc | apply Kd.S_drewN | apply Kd.S_drew)); exact HO335.out) hb); have n1_ := Aside0.mk (below_step (bw_ HB) hb); have n2_ := Aside0.mk (hbox); have n3_ := Aside0.mk ((by rw [hg]; exact (below_size (bw_ HB)) : w.heap.size ≤ gb338)); have n4_ := Aside0.mk ((by rw [hg]; exact (below_size (bw_ HB)) : w.heap.size ≤ gb338)); clear HO335; clear HB; have HO335 := n0_; have HB := n1_; have BK338 := n2_; have GW338 := n3_; have GE338 := n4_; clear n0_ n1_ n2_ n3_ n4_; clear hb hbox hg; obtain ⟨hcz35_0, hcz35_1, hfz35_0, hfz35_1⟩ := cz2_ BK338) | ((with_reducible refine gate_callee (f := 20) rfl ?_); refine goesL_ (some 16) rfl rfl Try.func20 (by kernel_rfl) rfl #[.slice A0 l0.length c0, .int .i64 a1] rfl ar_ ?_; (with_reducible refine (linkhouselaw7_fromFault.calls k _ _ l0 a1 t339 t340 _ ?side1 ?side2 A4.out).mono ?_); (case side1 => exact cb_ HR0 HB); (case side2 => exact HC0.out); rintro e w36 ⟨rfl, hb⟩; refine ⟨_, rfl, ?_⟩; have n0_ := Aside0.mk (Kd.S_below (by (with_reducible repeat (first | apply Kd.S_alloc | apply Kd.S_drewN | apply Kd.S_drew)); exact (Kd.S_mono (Kd.S_far (p := ⟨gb338, 1, none⟩) (Kd.S_far (p := ⟨gb338, 0, none⟩) (Kd.S_types HO335.out BK338.out (by decide)) (fun _ hk => hk.2) (.int .i64 t336)) (fun _ hk => hk.2) (.int .i64 t337)) (fun _ h_ => h_.1))) hb); have n1_ := Aside0.mk (blk_below (g := gb338) (o := .cells #[.int .i64 t336, .int .i64 t337] 28 (0, 0)) (bk_ BK338) hb); have n2_ := Aside0.mk (below_step (bw_ HB) hb); clear HO335; clear BK338; clear HB; have HO335 := n0_; have BK338 := n1_; have HB := n2_; clear n0_ n1_ n2_; (try clear hb); (try clear hb2); (try clear hk); (try clear hi)) | ((with_reducible refine gate_dst (N := 7) rfl ?_); (try (refine gate_guard (by rfl) ?_; dsimp only)); refine bx_ (N := 7) (cs := #[.int .i64 0, .int .i64 0]) (t := 28) ?_; intro gb341 hg w37 hbox hb; have n0_ := Aside0.mk (Kd.S_below (by (with_reducible repeat (first | apply Kd.S_alloc | apply Kd.S_drewN | apply Kd.S_drew)); exact HO335.out) hb); have n1_ := Aside0.mk (blk_below (g := gb338) (o := .cells #[.int .i64 t336, .int .i64 t337] 28 (0, 0)) (bk_ BK338) hb); have n2_ := Aside0.mk (below_step (bw_ HB) hb); have n3_ := Aside0.mk (hbox); have n4_ := Aside0.mk ((by rw [hg]; exact (below_size (bw_ HB)) : w.heap.size ≤ gb341)); have n5_ := Aside0.mk ((by rw [hg]; exact (below_size (bw_ HB)) : w.heap.size ≤ gb341)); have n6_ := Aside0.mk ((by rw [hg]; exact Nat.ne_of_lt (blk_lt (g := gb338) (o := .cells #[.int .i64 t336, .int .i64 t337] 28 (0, 0)) (bk_ BK338)) : gb338 ≠ gb341)); have n7_ := Aside0.mk ((by rw [hg]; exact Nat.ne_of_gt (blk_lt (g := gb338) (o := .cells #[.int .i64 t336, .int .i64 t337] 28 (0, 0)) (bk_ BK338)) : gb341 ≠ gb338)); clear HO335; clear BK338; clear HB; have HO335 := n0_; have BK338 := n1_; have HB := n2_; have BK341 := n3_; have GW341 := n4_; have GE341 := n5_; have NB338_341 := n6_; have NB341_338 := n7_; clear n0_ n1_ n2_ n3_ n4_ n5_ n6_ n7_; clear hb hbox hg; have hnb38 := NB341_338.out; have hnc38 := NB338_341.out; obtain ⟨hcz39_0, hcz39_1, hfz39_0, hfz39_1⟩ := cz2_ BK341; obtain ⟨hcz40_0, hcz40_1, hfz40_0, hfz40_1⟩ := cz2_ BK338) | (go_at_call 26; (with_reducible refine (linkhouseref7_Loops.calls k _ _ l0 a1 t343 _ ?side1 ?side2 A17.out).mono ?_); (case side1 => exact cb_ HR0 HB); (case side2 => exact HC0.out); rintro e w41 ⟨v344, rfl, ho0, hb⟩; have n0_ := Aside0.mk (Kd.S_elder' (by (with_reducible repeat (first | apply Kd.S_alloc | apply Kd.S_drewN | apply Kd.S_drew)); exact (Kd.S_mono (Kd.S_far (p := ⟨gb341, 1, none⟩) (Kd.S_far (p := ⟨gb341, 0, none⟩) (Kd.S_types HO335.out BK341.out (by decide)) (fun _ hk => hk.2) (.int .i64 t339)) (fun _ hk => hk.2) (.int .i64 t340)) (fun _ h_ => h_.1))) (Kd.S_base ho0) hb); have n1_ := Aside0.mk (Kd.S_lower (Kd.S_new' ho0 (Kd.S_lt (by (with_reducible repeat (first | apply Kd.S_alloc | apply Kd.S_drewN | apply Kd.S_drew)); exact (Kd.S_mono (Kd.S_far (p := ⟨gb341, 1, none⟩) (Kd.S_far (p := ⟨gb341, 0, none⟩) (Kd.S_types HO335.out BK341.out (by decide)) (fun _ hk => hk.2) (.int .i64 t339)) (fun _ hk => hk.2) (.int .i64 t340)) (fun _ h_ => h_.1))))) (below_size (bw_ HB))); have n2_ := Aside0.mk (blk_below (g := gb338) (o := .cells #[.int .i64 t336, .int .i64 t337] 28 (0, 0)) (bk_ BK338) hb); have n3_ := Aside0.mk (blk_below (g := gb341) (o := .cells #[.int .i64 t339, .int .i64 t340] 28 (0, 0)) (bk_ BK341) hb); have n4_ := Aside0.mk (below_step (bw_ HB) hb); clear HO335; clear BK338; clear BK341; clear HB; have HO335 := n0_; have HO345 := n1_; have BK338 := n2_; have BK341 := n3_; have HB := n4_; clear n0_ n1_ n2_ n3_ n4_; (try clear hb); (try clear hb2); (try clear hk); (try clear hi); (try clear ho0); obtain ⟨Ao42, co42, eo42⟩ := Kd.S_slice HO335.out; subst eo42; obtain ⟨Ao43, co43, eo43⟩ := Kd.S_slice HO345.out; subst eo43) | (go_at_call 25; (with_reducible refine (linkhouseref7_SameLoops.calls k _ _ t333 _ _ t343 false _ ?side1 ?side2 ?side3 ?side4 A18.out).mono ?_); (case side1 => repeat (first | exact (Kd.S_reads' HO335.out).2.2 | (with_reducible refine Kd.C_alloc ?_ _) | (with_reducible refine Kd.C_drewN ?_ _) | (with_reducible refine Kd.C_drew ?_))); (case side2 => exact (Kd.S_reads' HO335.out).2.1); (case side3 => repeat (first | exact (Kd.S_reads' HO345.out).2.2 | (with_reducible refine Kd.C_alloc ?_ _) | (with_reducible refine Kd.C_drewN ?_ _) | (with_reducible refine Kd.C_drew ?_))); (case side4 => exact (Kd.S_reads' HO345.out).2.1); rintro e w' ⟨rfl, ⟨nd, rfl⟩⟩))
     go_ret
     exact ⟨id_, bw_ HB⟩
   ·
    rw [if_neg c16] at H
    have c16b0 : (t336 == 0) = false := beq_eq_false_iff_ne.mpr c16
    have c16b1 : (t336 != 0) = true := bne_iff_ne.mpr c16
    obtain rfl := Option.some.inj H
    go_enter Try.func6, Try.ntmps6
    go_wp2_with (first | ((with_reducible refine gate_callee (f := 24) rfl ?_); refine goesL_ (some 11) rfl rfl Try.func24 (by kernel_rfl) rfl #[.slice A0 l0.length c0, .int .i64 a1] rfl ar_ ?_; (with_reducible refine (flow_Loops.calls k _ _ l0 a1 t333 t336 t337 _ ?side1 ?side2 A3.out).mono ?_); (case side1 => repeat (first | exact HR0.out | (with_reducible refine Kd.C_alloc ?_ _) | (with_reducible refine Kd.C_drewN ?_ _) | (with_reducible refine Kd.C_drew ?_))); (case side2 => exact HC0.out); rintro e w44 ⟨v334, rfl, ho0, hb⟩; refine ⟨_, rfl, ?_⟩; have n0_ := Aside0.mk (Kd.S_lower ho0 (below_size (bw_ HB))); have n1_ := Aside0.mk (below_step (bw_ HB) hb); clear HB; have HO335 := n0_; have HB := n1_; clear n0_ n1_; (try clear hb); (try clear hb2); (try clear hk); (try clear hi); (try clear ho0)) | ((with_reducible refine gate_dst (N := 6) rfl ?_); (try (refine gate_guard (by rfl) ?_; dsimp only)); refine bx_ (N := 6) (cs := #[.int .i64 0, .int .i64 0]) (t := 28) ?_; intro gb338 hg w45 hbox hb; have n0_ := Aside0.mk (Kd.S_below (by (with_reducible repeat (first | apply Kd.S_alloc | apply Kd.S_drewN | apply Kd.S_drew)); exact HO335.out) hb); have n1_ := Aside0.mk (below_step (bw_ HB) hb); have n2_ := Aside0.mk (hbox); have n3_ := Aside0.mk ((by rw [hg]; exact (below_size (bw_ HB)) : w.heap.size ≤ gb338)); have n4_ := Aside0.mk ((by rw [hg]; exact (below_size (bw_ HB)) : w.heap.size ≤ gb338)); clear HO335; clear HB; have HO335 := n0_; have HB := n1_; have BK338 := n2_; have GW338 := n3_; have GE338 := n4_; clear n0_ n1_ n2_ n3_ n4_; clear hb hbox hg; obtain ⟨hcz46_0, hcz46_1, hfz46_0, hfz46_1⟩ := cz2_ BK338) | ((with_reducible refine gate_callee (f := 20) rfl ?_); refine goesL_ (some 16) rfl rfl Try.func20 (by kernel_rfl) rfl #[.slice A0 l0.length c0, .int .i64 a1] rfl ar_ ?_; (with_reducible refine (linkhouselaw7_fromFault.calls k _ _ l0 a1 t339 t340 _ ?side1 ?side2 A4.out).mono ?_); (case side1 => exact cb_ HR0 HB); (case side2 => exact HC0.out); rintro e w47 ⟨rfl, hb⟩; refine ⟨_, rfl, ?_⟩; have n0_ := Aside0.mk (Kd.S_below (by (with_reducible repeat (first | apply Kd.S_alloc | apply Kd.S_drewN | apply Kd.S_drew)); exact (Kd.S_mono (Kd.S_far (p := ⟨gb338, 1, none⟩) (Kd.S_far (p := ⟨gb338, 0, none⟩) (Kd.S_types HO335.out BK338.out (by decide)) (fun _ hk => hk.2) (.int .i64 t336)) (fun _ hk => hk.2) (.int .i64 t337)) (fun _ h_ => h_.1))) hb); have n1_ := Aside0.mk (blk_below (g := gb338) (o := .cells #[.int .i64 t336, .int .i64 t337] 28 (0, 0)) (bk_ BK338) hb); have n2_ := Aside0.mk (below_step (bw_ HB) hb); clear HO335; clear BK338; clear HB; have HO335 := n0_; have BK338 := n1_; have HB := n2_; clear n0_ n1_ n2_; (try clear hb); (try clear hb2); (try clear hk); (try clear hi)) | ((with_reducible refine gate_dst (N := 7) rfl ?_); (try (refine gate_guard (by rfl) ?_; dsimp only)); refine bx_ (N := 7) (cs := #[.int .i64 0, .int .i64 0]) (t := 28) ?_; intro gb341 hg w48 hbox hb; have n0_ := Aside0.mk (Kd.S_below (by (with_reducible repeat (first | apply Kd.S_alloc | apply Kd.S_drewN | apply Kd.S_drew)); exact HO335.out) hb); have n1_ := Aside0.mk (blk_below (g := gb338) (o := .cells #[.int .i64 t336, .int .i64 t337] 28 (0, 0)) (bk_ BK338) hb); have n2_ := Aside0.mk (below_step (bw_ HB) hb); have n3_ := Aside0.mk (hbox); have n4_ := Aside0.mk ((by rw [hg]; exact (below_size (bw_ HB)) : w.heap.size ≤ gb341)); have n5_ := Aside0.mk ((by rw [hg]; exact (below_size (bw_ HB)) : w.heap.size ≤ gb341)); have n6_ := Aside0.mk ((by rw [hg]; exact Nat.ne_of_lt (blk_lt (g := gb338) (o := .cells #[.int .i64 t336, .int .i64 t337] 28 (0, 0)) (bk_ BK338)) : gb338 ≠ gb341)); have n7_ := Aside0.mk ((by rw [hg]; exact Nat.ne_of_gt (blk_lt (g := gb338) (o := .cells #[.int .i64 t336, .int .i64 t337] 28 (0, 0)) (bk_ BK338)) : gb341 ≠ gb338)); clear HO335; clear BK338; clear HB; have HO335 := n0_; have BK338 := n1_; have HB := n2_; have BK341 := n3_; have GW341 := n4_; have GE341 := n5_; have NB338_341 := n6_; have NB341_338 := n7_; clear n0_ n1_ n2_ n3_ n4_ n5_ n6_ n7_; clear hb hbox hg; have hnb49 := NB341_338.out; have hnc49 := NB338_341.out; obtain ⟨hcz50_0, hcz50_1, hfz50_0, hfz50_1⟩ := cz2_ BK341; obtain ⟨hcz51_0, hcz51_1, hfz51_0, hfz51_1⟩ := cz2_ BK338))
    go_ret
    exact ⟨id_, bw_ HB⟩
 ·
  rw [if_neg c5] at H
  have c5b0 : (t339 == 0) = false := beq_eq_false_iff_ne.mpr c5
  have c5b1 : (t339 != 0) = true := bne_iff_ne.mpr c5
  by_cases c52 : (t336 == t339 && (t337 == t340)) = true
  ·
   rw [if_pos c52] at H
   have c52b0 : (t336 == t339 && (t337 == t340)) = true := c52
   (try (have c52b1 : decide (t336 = t339 && (t337 == t340)) = true := by simpa using c52))
   (try (have c52b2 : (t336 == t339 && (t337 == t340)) = true := by simpa using c52))
   clear c52
   by_cases c53 : (t333.length : Int) = 0
   ·
    rw [if_pos c53] at H
    have c53b0 : ((t333.length : Int) == 0) = true := beq_iff_eq.mpr c53
    have c53b1 : ((t333.length : Int) != 0) = false := bne_eq_false_iff_eq.mpr c53
    clear c53
    replace H := Option.bind_eq_some_iff.mp H
    obtain ⟨t348, A540, H⟩ := H
    replace H : (some t348) = some r := H
    have A54 := Aside0.mk A540
    clear A540
    obtain rfl := Option.some.inj H
    go_enter Try.func6, Try.ntmps6
    go_wp2_with (first | ((with_reducible refine gate_callee (f := 24) rfl ?_); refine goesL_ (some 11) rfl rfl Try.func24 (by kernel_rfl) rfl #[.slice A0 l0.length c0, .int .i64 a1] rfl ar_ ?_; (with_reducible refine (flow_Loops.calls k _ _ l0 a1 t333 t336 t337 _ ?side1 ?side2 A3.out).mono ?_); (case side1 => repeat (first | exact HR0.out | (with_reducible refine Kd.C_alloc ?_ _) | (with_reducible refine Kd.C_drewN ?_ _) | (with_reducible refine Kd.C_drew ?_))); (case side2 => exact HC0.out); rintro e w55 ⟨v334, rfl, ho0, hb⟩; refine ⟨_, rfl, ?_⟩; have n0_ := Aside0.mk (Kd.S_lower ho0 (below_size (bw_ HB))); have n1_ := Aside0.mk (below_step (bw_ HB) hb); clear HB; have HO335 := n0_; have HB := n1_; clear n0_ n1_; (try clear hb); (try clear hb2); (try clear hk); (try clear hi); (try clear ho0)) | ((with_reducible refine gate_dst (N := 6) rfl ?_); (try (refine gate_guard (by rfl) ?_; dsimp only)); refine bx_ (N := 6) (cs := #[.int .i64 0, .int .i64 0]) (t := 28) ?_; intro gb338 hg w56 hbox hb; have n0_ := Aside0.mk (Kd.S_below (by (with_reducible repeat (first | apply Kd.S_alloc | apply Kd.S_drewN | apply Kd.S_drew)); exact HO335.out) hb); have n1_ := Aside0.mk (below_step (bw_ HB) hb); have n2_ := Aside0.mk (hbox); have n3_ := Aside0.mk ((by rw [hg]; exact (below_size (bw_ HB)) : w.heap.size ≤ gb338)); have n4_ := Aside0.mk ((by rw [hg]; exact (below_size (bw_ HB)) : w.heap.size ≤ gb338)); clear HO335; clear HB; have HO335 := n0_; have HB := n1_; have BK338 := n2_; have GW338 := n3_; have GE338 := n4_; clear n0_ n1_ n2_ n3_ n4_; clear hb hbox hg; obtain ⟨hcz57_0, hcz57_1, hfz57_0, hfz57_1⟩ := cz2_ BK338) | ((with_reducible refine gate_callee (f := 20) rfl ?_); refine goesL_ (some 16) rfl rfl Try.func20 (by kernel_rfl) rfl #[.slice A0 l0.length c0, .int .i64 a1] rfl ar_ ?_; (with_reducible refine (linkhouselaw7_fromFault.calls k _ _ l0 a1 t339 t340 _ ?side1 ?side2 A4.out).mono ?_); (case side1 => exact cb_ HR0 HB); (case side2 => exact HC0.out); rintro e w58 ⟨rfl, hb⟩; refine ⟨_, rfl, ?_⟩; have n0_ := Aside0.mk (Kd.S_below (by (with_reducible repeat (first | apply Kd.S_alloc | apply Kd.S_drewN | apply Kd.S_drew)); exact (Kd.S_mono (Kd.S_far (p := ⟨gb338, 1, none⟩) (Kd.S_far (p := ⟨gb338, 0, none⟩) (Kd.S_types HO335.out BK338.out (by decide)) (fun _ hk => hk.2) (.int .i64 t336)) (fun _ hk => hk.2) (.int .i64 t337)) (fun _ h_ => h_.1))) hb); have n1_ := Aside0.mk (blk_below (g := gb338) (o := .cells #[.int .i64 t336, .int .i64 t337] 28 (0, 0)) (bk_ BK338) hb); have n2_ := Aside0.mk (below_step (bw_ HB) hb); clear HO335; clear BK338; clear HB; have HO335 := n0_; have BK338 := n1_; have HB := n2_; clear n0_ n1_ n2_; (try clear hb); (try clear hb2); (try clear hk); (try clear hi)) | ((with_reducible refine gate_dst (N := 7) rfl ?_); (try (refine gate_guard (by rfl) ?_; dsimp only)); refine bx_ (N := 7) (cs := #[.int .i64 0, .int .i64 0]) (t := 28) ?_; intro gb341 hg w59 hbox hb; have n0_ := Aside0.mk (Kd.S_below (by (with_reducible repeat (first | apply Kd.S_alloc | apply Kd.S_drewN | apply Kd.S_drew)); exact HO335.out) hb); have n1_ := Aside0.mk (blk_below (g := gb338) (o := .cells #[.int .i64 t336, .int .i64 t337] 28 (0, 0)) (bk_ BK338) hb); have n2_ := Aside0.mk (below_step (bw_ HB) hb); have n3_ := Aside0.mk (hbox); have n4_ := Aside0.mk ((by rw [hg]; exact (below_size (bw_ HB)) : w.heap.size ≤ gb341)); have n5_ := Aside0.mk ((by rw [hg]; exact (below_size (bw_ HB)) : w.heap.size ≤ gb341)); have n6_ := Aside0.mk ((by rw [hg]; exact Nat.ne_of_lt (blk_lt (g := gb338) (o := .cells #[.int .i64 t336, .int .i64 t337] 28 (0, 0)) (bk_ BK338)) : gb338 ≠ gb341)); have n7_ := Aside0.mk ((by rw [hg]; exact Nat.ne_of_gt (blk_lt (g := gb338) (o := .cells #[.int .i64 t336, .int .i64 t337] 28 (0, 0)) (bk_ BK338)) : gb341 ≠ gb338)); clear HO335; clear BK338; clear HB; have HO335 := n0_; have BK338 := n1_; have HB := n2_; have BK341 := n3_; have GW341 := n4_; have GE341 := n5_; have NB338_341 := n6_; have NB341_338 := n7_; clear n0_ n1_ n2_ n3_ n4_ n5_ n6_ n7_; clear hb hbox hg; have hnb60 := NB341_338.out; have hnc60 := NB338_341.out; obtain ⟨hcz61_0, hcz61_1, hfz61_0, hfz61_1⟩ := cz2_ BK341; obtain ⟨hcz62_0, hcz62_1, hfz62_0, hfz62_1⟩ := cz2_ BK338; obtain ⟨Ao63, co63, eo63⟩ := Kd.S_slice HO335.out; subst eo63) | (go_at_call 21; (with_reducible refine (linkhouselaw7_crossed.calls k  t348 _ A54.out).mono ?_); rintro e w64 ⟨rfl, hb⟩; have n0_ := Aside0.mk (Kd.S_below (by (with_reducible repeat (first | apply Kd.S_alloc | apply Kd.S_drewN | apply Kd.S_drew)); exact (Kd.S_mono (Kd.S_far (p := ⟨gb341, 1, none⟩) (Kd.S_far (p := ⟨gb341, 0, none⟩) (Kd.S_types HO335.out BK341.out (by decide)) (fun _ hk => hk.2) (.int .i64 t339)) (fun _ hk => hk.2) (.int .i64 t340)) (fun _ h_ => h_.1))) hb); have n1_ := Aside0.mk (blk_below (g := gb338) (o := .cells #[.int .i64 t336, .int .i64 t337] 28 (0, 0)) (bk_ BK338) hb); have n2_ := Aside0.mk (blk_below (g := gb341) (o := .cells #[.int .i64 t339, .int .i64 t340] 28 (0, 0)) (bk_ BK341) hb); have n3_ := Aside0.mk (below_step (bw_ HB) hb); clear HO335; clear BK338; clear BK341; clear HB; have HO335 := n0_; have BK338 := n1_; have BK341 := n2_; have HB := n3_; clear n0_ n1_ n2_ n3_; (try clear hb); (try clear hb2); (try clear hk); (try clear hi)))
    go_ret
    exact ⟨id_, bw_ HB⟩
   ·
    rw [if_neg c53] at H
    have c53b0 : ((t333.length : Int) == 0) = false := beq_eq_false_iff_ne.mpr c53
    have c53b1 : ((t333.length : Int) != 0) = true := bne_iff_ne.mpr c53
    have c53b2 : ¬ (t333 = []) := fun h_ => c53 (by rw [h_]; rfl)
    obtain rfl := Option.some.inj H
    go_enter Try.func6, Try.ntmps6
    go_wp2_with (first | ((with_reducible refine gate_callee (f := 24) rfl ?_); refine goesL_ (some 11) rfl rfl Try.func24 (by kernel_rfl) rfl #[.slice A0 l0.length c0, .int .i64 a1] rfl ar_ ?_; (with_reducible refine (flow_Loops.calls k _ _ l0 a1 t333 t336 t337 _ ?side1 ?side2 A3.out).mono ?_); (case side1 => repeat (first | exact HR0.out | (with_reducible refine Kd.C_alloc ?_ _) | (with_reducible refine Kd.C_drewN ?_ _) | (with_reducible refine Kd.C_drew ?_))); (case side2 => exact HC0.out); rintro e w65 ⟨v334, rfl, ho0, hb⟩; refine ⟨_, rfl, ?_⟩; have n0_ := Aside0.mk (Kd.S_lower ho0 (below_size (bw_ HB))); have n1_ := Aside0.mk (below_step (bw_ HB) hb); clear HB; have HO335 := n0_; have HB := n1_; clear n0_ n1_; (try clear hb); (try clear hb2); (try clear hk); (try clear hi); (try clear ho0)) | ((with_reducible refine gate_dst (N := 6) rfl ?_); (try (refine gate_guard (by rfl) ?_; dsimp only)); refine bx_ (N := 6) (cs := #[.int .i64 0, .int .i64 0]) (t := 28) ?_; intro gb338 hg w66 hbox hb; have n0_ := Aside0.mk (Kd.S_below (by (with_reducible repeat (first | apply Kd.S_alloc | apply Kd.S_drewN | apply Kd.S_drew)); exact HO335.out) hb); have n1_ := Aside0.mk (below_step (bw_ HB) hb); have n2_ := Aside0.mk (hbox); have n3_ := Aside0.mk ((by rw [hg]; exact (below_size (bw_ HB)) : w.heap.size ≤ gb338)); have n4_ := Aside0.mk ((by rw [hg]; exact (below_size (bw_ HB)) : w.heap.size ≤ gb338)); clear HO335; clear HB; have HO335 := n0_; have HB := n1_; have BK338 := n2_; have GW338 := n3_; have GE338 := n4_; clear n0_ n1_ n2_ n3_ n4_; clear hb hbox hg; obtain ⟨hcz67_0, hcz67_1, hfz67_0, hfz67_1⟩ := cz2_ BK338) | ((with_reducible refine gate_callee (f := 20) rfl ?_); refine goesL_ (some 16) rfl rfl Try.func20 (by kernel_rfl) rfl #[.slice A0 l0.length c0, .int .i64 a1] rfl ar_ ?_; (with_reducible refine (linkhouselaw7_fromFault.calls k _ _ l0 a1 t339 t340 _ ?side1 ?side2 A4.out).mono ?_); (case side1 => exact cb_ HR0 HB); (case side2 => exact HC0.out); rintro e w68 ⟨rfl, hb⟩; refine ⟨_, rfl, ?_⟩; have n0_ := Aside0.mk (Kd.S_below (by (with_reducible repeat (first | apply Kd.S_alloc | apply Kd.S_drewN | apply Kd.S_drew)); exact (Kd.S_mono (Kd.S_far (p := ⟨gb338, 1, none⟩) (Kd.S_far (p := ⟨gb338, 0, none⟩) (Kd.S_types HO335.out BK338.out (by decide)) (fun _ hk => hk.2) (.int .i64 t336)) (fun _ hk => hk.2) (.int .i64 t337)) (fun _ h_ => h_.1))) hb); have n1_ := Aside0.mk (blk_below (g := gb338) (o := .cells #[.int .i64 t336, .int .i64 t337] 28 (0, 0)) (bk_ BK338) hb); have n2_ := Aside0.mk (below_step (bw_ HB) hb); clear HO335; clear BK338; clear HB; have HO335 := n0_; have BK338 := n1_; have HB := n2_; clear n0_ n1_ n2_; (try clear hb); (try clear hb2); (try clear hk); (try clear hi)) | ((with_reducible refine gate_dst (N := 7) rfl ?_); (try (refine gate_guard (by rfl) ?_; dsimp only)); refine bx_ (N := 7) (cs := #[.int .i64 0, .int .i64 0]) (t := 28) ?_; intro gb341 hg w69 hbox hb; have n0_ := Aside0.mk (Kd.S_below (by (with_reducible repeat (first | apply Kd.S_alloc | apply Kd.S_drewN | apply Kd.S_drew)); exact HO335.out) hb); have n1_ := Aside0.mk (blk_below (g := gb338) (o := .cells #[.int .i64 t336, .int .i64 t337] 28 (0, 0)) (bk_ BK338) hb); have n2_ := Aside0.mk (below_step (bw_ HB) hb); have n3_ := Aside0.mk (hbox); have n4_ := Aside0.mk ((by rw [hg]; exact (below_size (bw_ HB)) : w.heap.size ≤ gb341)); have n5_ := Aside0.mk ((by rw [hg]; exact (below_size (bw_ HB)) : w.heap.size ≤ gb341)); have n6_ := Aside0.mk ((by rw [hg]; exact Nat.ne_of_lt (blk_lt (g := gb338) (o := .cells #[.int .i64 t336, .int .i64 t337] 28 (0, 0)) (bk_ BK338)) : gb338 ≠ gb341)); have n7_ := Aside0.mk ((by rw [hg]; exact Nat.ne_of_gt (blk_lt (g := gb338) (o := .cells #[.int .i64 t336, .int .i64 t337] 28 (0, 0)) (bk_ BK338)) : gb341 ≠ gb338)); clear HO335; clear BK338; clear HB; have HO335 := n0_; have BK338 := n1_; have HB := n2_; have BK341 := n3_; have GW341 := n4_; have GE341 := n5_; have NB338_341 := n6_; have NB341_338 := n7_; clear n0_ n1_ n2_ n3_ n4_ n5_ n6_ n7_; clear hb hbox hg; have hnb70 := NB341_338.out; have hnc70 := NB338_341.out; obtain ⟨hcz71_0, hcz71_1, hfz71_0, hfz71_1⟩ := cz2_ BK341; obtain ⟨hcz72_0, hcz72_1, hfz72_0, hfz72_1⟩ := cz2_ BK338; obtain ⟨Ao73, co73, eo73⟩ := Kd.S_slice HO335.out; subst eo73))
    go_ret
    exact ⟨id_, bw_ HB⟩
  ·
   rw [if_neg c52] at H
   have c52b0 : (t336 == t339 && (t337 == t340)) = false := by simpa using c52
   (try (have c52b1 : decide (t336 = t339 && (t337 == t340)) = false := by simpa using c52))
   (try (have c52b2 : (t336 == t339 && (t337 == t340)) = false := by simpa using c52))
   (try (have c52b3 : ¬ (t336 = t339 && (t337 == t340)) := by simpa using c52))
   clear c52
   obtain rfl := Option.some.inj H
   go_enter Try.func6, Try.ntmps6
   go_wp2_with (first | ((with_reducible refine gate_callee (f := 24) rfl ?_); refine goesL_ (some 11) rfl rfl Try.func24 (by kernel_rfl) rfl #[.slice A0 l0.length c0, .int .i64 a1] rfl ar_ ?_; (with_reducible refine (flow_Loops.calls k _ _ l0 a1 t333 t336 t337 _ ?side1 ?side2 A3.out).mono ?_); (case side1 => repeat (first | exact HR0.out | (with_reducible refine Kd.C_alloc ?_ _) | (with_reducible refine Kd.C_drewN ?_ _) | (with_reducible refine Kd.C_drew ?_))); (case side2 => exact HC0.out); rintro e w74 ⟨v334, rfl, ho0, hb⟩; refine ⟨_, rfl, ?_⟩; have n0_ := Aside0.mk (Kd.S_lower ho0 (below_size (bw_ HB))); have n1_ := Aside0.mk (below_step (bw_ HB) hb); clear HB; have HO335 := n0_; have HB := n1_; clear n0_ n1_; (try clear hb); (try clear hb2); (try clear hk); (try clear hi); (try clear ho0)) | ((with_reducible refine gate_dst (N := 6) rfl ?_); (try (refine gate_guard (by rfl) ?_; dsimp only)); refine bx_ (N := 6) (cs := #[.int .i64 0, .int .i64 0]) (t := 28) ?_; intro gb338 hg w75 hbox hb; have n0_ := Aside0.mk (Kd.S_below (by (with_reducible repeat (first | apply Kd.S_alloc | apply Kd.S_drewN | apply Kd.S_drew)); exact HO335.out) hb); have n1_ := Aside0.mk (below_step (bw_ HB) hb); have n2_ := Aside0.mk (hbox); have n3_ := Aside0.mk ((by rw [hg]; exact (below_size (bw_ HB)) : w.heap.size ≤ gb338)); have n4_ := Aside0.mk ((by rw [hg]; exact (below_size (bw_ HB)) : w.heap.size ≤ gb338)); clear HO335; clear HB; have HO335 := n0_; have HB := n1_; have BK338 := n2_; have GW338 := n3_; have GE338 := n4_; clear n0_ n1_ n2_ n3_ n4_; clear hb hbox hg; obtain ⟨hcz76_0, hcz76_1, hfz76_0, hfz76_1⟩ := cz2_ BK338) | ((with_reducible refine gate_callee (f := 20) rfl ?_); refine goesL_ (some 16) rfl rfl Try.func20 (by kernel_rfl) rfl #[.slice A0 l0.length c0, .int .i64 a1] rfl ar_ ?_; (with_reducible refine (linkhouselaw7_fromFault.calls k _ _ l0 a1 t339 t340 _ ?side1 ?side2 A4.out).mono ?_); (case side1 => exact cb_ HR0 HB); (case side2 => exact HC0.out); rintro e w77 ⟨rfl, hb⟩; refine ⟨_, rfl, ?_⟩; have n0_ := Aside0.mk (Kd.S_below (by (with_reducible repeat (first | apply Kd.S_alloc | apply Kd.S_drewN | apply Kd.S_drew)); exact (Kd.S_mono (Kd.S_far (p := ⟨gb338, 1, none⟩) (Kd.S_far (p := ⟨gb338, 0, none⟩) (Kd.S_types HO335.out BK338.out (by decide)) (fun _ hk => hk.2) (.int .i64 t336)) (fun _ hk => hk.2) (.int .i64 t337)) (fun _ h_ => h_.1))) hb); have n1_ := Aside0.mk (blk_below (g := gb338) (o := .cells #[.int .i64 t336, .int .i64 t337] 28 (0, 0)) (bk_ BK338) hb); have n2_ := Aside0.mk (below_step (bw_ HB) hb); clear HO335; clear BK338; clear HB; have HO335 := n0_; have BK338 := n1_; have HB := n2_; clear n0_ n1_ n2_; (try clear hb); (try clear hb2); (try clear hk); (try clear hi)) | ((with_reducible refine gate_dst (N := 7) rfl ?_); (try (refine gate_guard (by rfl) ?_; dsimp only)); refine bx_ (N := 7) (cs := #[.int .i64 0, .int .i64 0]) (t := 28) ?_; intro gb341 hg w78 hbox hb; have n0_ := Aside0.mk (Kd.S_below (by (with_reducible repeat (first | apply Kd.S_alloc | apply Kd.S_drewN | apply Kd.S_drew)); exact HO335.out) hb); have n1_ := Aside0.mk (blk_below (g := gb338) (o := .cells #[.int .i64 t336, .int .i64 t337] 28 (0, 0)) (bk_ BK338) hb); have n2_ := Aside0.mk (below_step (bw_ HB) hb); have n3_ := Aside0.mk (hbox); have n4_ := Aside0.mk ((by rw [hg]; exact (below_size (bw_ HB)) : w.heap.size ≤ gb341)); have n5_ := Aside0.mk ((by rw [hg]; exact (below_size (bw_ HB)) : w.heap.size ≤ gb341)); have n6_ := Aside0.mk ((by rw [hg]; exact Nat.ne_of_lt (blk_lt (g := gb338) (o := .cells #[.int .i64 t336, .int .i64 t337] 28 (0, 0)) (bk_ BK338)) : gb338 ≠ gb341)); have n7_ := Aside0.mk ((by rw [hg]; exact Nat.ne_of_gt (blk_lt (g := gb338) (o := .cells #[.int .i64 t336, .int .i64 t337] 28 (0, 0)) (bk_ BK338)) : gb341 ≠ gb338)); clear HO335; clear BK338; clear HB; have HO335 := n0_; have BK338 := n1_; have HB := n2_; have BK341 := n3_; have GW341 := n4_; have GE341 := n5_; have NB338_341 := n6_; have NB341_338 := n7_; clear n0_ n1_ n2_ n3_ n4_ n5_ n6_ n7_; clear hb hbox hg; have hnb79 := NB341_338.out; have hnc79 := NB338_341.out; obtain ⟨hcz80_0, hcz80_1, hfz80_0, hfz80_1⟩ := cz2_ BK341; obtain ⟨hcz81_0, hcz81_1, hfz81_0, hfz81_1⟩ := cz2_ BK338))
   go_ret
   exact ⟨id_, bw_ HB⟩

end Go.Proofs.Ytaellapacoikaaa.PB
