import Derived.Test.YtaellapacoikaaaN0
import Derived.Test.YtaellapacoikaaaNSBx0
namespace Go.Proofs.Ytaellapacoikaaa.PB
open Go.RowKit Go.Proofs.YtaellapacoikaaaW.PrintWords Go.Proofs.YtaellapacoikaaaW.PrintLast Go.Proofs.YtaellapacoikaaaW.PrintMore
attribute [local go_sem] max2_int min2_int max_two min_two max_three min_three max_four min_four   -- for this text's walks alone
set_option linter.unusedVariables false
set_option linter.unusedSimpArgs false

theorem drawn_cell_ {w wr : World} (h : Drawn0 w wr) {p : Addr} {v : Value} (hx : w.cell? p = some v) : wr.cell? p = some v := by
 obtain ⟨m, rfl⟩ := h
 exact hx
/-! ### flow_Loops_1: function 46 -/
set_option maxRecDepth 100000 in
def flow_Loops_1.l0 : Nat → Int → Int → List Int → Option (Bool)
 | 0, _, _, _ => none
 | k + 1, x0, x1, x161000 => if x1 = x0 then (some (x0 == x1)) else (if 0 ≤ x1 then (if x1 < (x161000.length : Int) then (if (rd x161000 x1) = x1 then (some (x0 == x1)) else (flow_Loops_1.l0 k x0 (rd x161000 x1) x161000)) else (none)) else (none))
set_option maxRecDepth 100000 in
def flow_Loops_1.f (k : Nat) (a0 : Int) (a1 : Int) (l2_0 : List Int) : Option (Bool) := flow_Loops_1.l0 k a0 a1 l2_0
set_option maxRecDepth 100000 in
theorem flow_Loops_1.mono_l : ∀ k, (∀ y0 y1 y2, LeO (flow_Loops_1.l0 k y0 y1 y2) (flow_Loops_1.l0 (k + 1) y0 y1 y2))
 | 0 => fun _ _ _ r h => by simp [flow_Loops_1.l0] at h
 | k + 1 => by
  have ih0 := flow_Loops_1.mono_l k
  ·
   intro y0 y1 y2
   unfold flow_Loops_1.l0
   repeat' first
   | (with_reducible exact ih0 _ _ _)
   | (with_reducible exact LeO.refl _)
   | (with_reducible exact LeO.none _)
   | (with_reducible refine LeO.ite ?_ ?_)
   | (with_reducible refine LeO.bind ?_ (fun _ => ?_))
   | exact ih0 _ _ _
   | exact LeO.none _
   | refine LeO.ite ?_ ?_
   | refine LeO.bind ?_ (fun _ => ?_)
set_option maxRecDepth 100000 in
theorem flow_Loops_1.mono : ∀ a0 a1 a2 k, LeO (flow_Loops_1.f k a0 a1 a2) (flow_Loops_1.f (k + 1) a0 a1 a2) := by
 intro a0 a1 a2 k
 have ih0 := flow_Loops_1.mono_l k
 unfold flow_Loops_1.f
 repeat' first
   | (with_reducible exact ih0 _ _ _)
   | (with_reducible exact LeO.refl _)
   | (with_reducible exact LeO.none _)
   | (with_reducible refine LeO.ite ?_ ?_)
   | (with_reducible refine LeO.bind ?_ (fun _ => ?_))
   | exact ih0 _ _ _
   | exact LeO.none _
   | refine LeO.ite ?_ ?_
   | refine LeO.bind ?_ (fun _ => ?_)
set_option maxHeartbeats 8000000 in
set_option maxRecDepth 100000 in
theorem flow_Loops_1.calls (k : Nat) (a0 : Int) (a1 : Int) (gc2 : Nat) (A2_0 : Option Addr) (c2_0 : Nat) (l2_0 : List Int) (r : Bool) (w : World) (hb2 : w.heap[gc2]? = some (.cells #[.slice A2_0 l2_0.length c2_0] 22 (0, 0))) (hr2_0 : Kd.C (Kd.int .i64) w A2_0 l2_0.length l2_0) (hc2_0 : l2_0.length ≤ c2_0) (h : flow_Loops_1.f k a0 a1 l2_0 = some r) :
  Calls Try.prog 46 #[.int .i64 a0, .int .i64 a1, .pointer (some ⟨gc2, 0, none⟩)] w fun e w' => e = .returned (.bool r) ∧ Drawn0 w w' := by
 have HR2_0 := Aside0.mk hr2_0
 have HC2_0 := Aside0.mk hc2_0
 clear hr2_0 hc2_0
 have BK160 := Aside0.mk hb2
 clear hb2
 have H : (flow_Loops_1.l0 k a0 a1 l2_0) = some r := h
 clear h
 have H' := Aside0.mk H
 clear H
 go_enter Try.func46, Try.ntmps46
 go_wp2
 go_loopg [1] k (fun kq v1 w' => ∃ (x1_1 : Int), v1 = .int .i64 x1_1 ∧ Aside0 (flow_Loops_1.l0 kq a0 x1_1 l2_0 = some r) ∧ Aside0 (kq ≤ k) ∧ Aside0 (w'.heap[gc2]? = some (.cells #[(.slice A2_0 l2_0.length c2_0)] 22 (0, 0))) ∧ Drawn0 w w')
 case atStart => exact ⟨(a1), rs_, H', ⟨Nat.le_refl _⟩, ⟨bk_ BK160⟩, by repeat (first | exact Drawn0.refl _ | apply Drawn0.step)⟩
 case round =>
  clear H'
  (try clear c2); (try clear p2)
  obtain ⟨x1_1, rfl, HA, HK1, BK160, HDr⟩ := hrel
  cases gk with
  | zero => exact absurd HA.out (by simp [flow_Loops_1.l0])
  | succ k1 =>
   have H := HA.out
   clear HA
   simp only [flow_Loops_1.l0] at H
   by_cases c4 : x1_1 = a0
   ·
    rw [if_pos c4] at H
    have c4b0 : (x1_1 == a0) = true := beq_iff_eq.mpr c4
    have c4b1 : (x1_1 != a0) = false := bne_eq_false_iff_eq.mpr c4
    clear c4
    obtain rfl := Option.some.inj H
    go_wp2
    go_ret
    exact ⟨by first | rfl | (simp; done) | (simp [*]; done), by repeat (first | exact HDr | exact Drawn0.refl _ | apply Drawn0.step)⟩
   ·
    rw [if_neg c4] at H
    have c4b0 : (x1_1 == a0) = false := beq_eq_false_iff_ne.mpr c4
    have c4b1 : (x1_1 != a0) = true := bne_iff_ne.mpr c4
    by_cases c5 : 0 ≤ x1_1
    ·
     rw [if_pos c5] at H
     have c5b0 : decide (0 ≤ x1_1) = true := decide_eq_true c5
     clear c5
     by_cases c6 : x1_1 < (l2_0.length : Int)
     ·
      rw [if_pos c6] at H
      have c6b0 : decide (x1_1 < (l2_0.length : Int)) = true := decide_eq_true c6
      clear c6
      by_cases c7 : (rd l2_0 x1_1) = x1_1
      ·
       rw [if_pos c7] at H
       have c7b0 : ((rd l2_0 x1_1) == x1_1) = true := beq_iff_eq.mpr c7
       have c7b1 : ((rd l2_0 x1_1) != x1_1) = false := bne_eq_false_iff_eq.mpr c7
       clear c7
       obtain rfl := Option.some.inj H
       have hcz8_0 : wr.cell? ⟨gc2, 0, none⟩ = some (.slice A2_0 l2_0.length c2_0) := (blk_cell BK160.out 0).trans rfl
       have hfz8_0 := blk_frozen BK160.out 0
       have p161 : 0 ≤ (x1_1 : Int) := of_decide_eq_true (by first | (with_reducible assumption) | assumption)
       have q161 : x1_1 < (l2_0.length : Int) := of_decide_eq_true (by first | (with_reducible assumption) | assumption)
       obtain ⟨ad161, e161, hx161_0⟩ := Kd.at_int HR2_0.out x1_1 p161 q161
       replace hx161_0 := drawn_cell_ HDr hx161_0
       cases e161
       replace p161 := eq_true p161
       replace q161 := eq_true q161
       go_wp2
       go_ret
       exact ⟨by first | rfl | (simp; done) | (simp [*]; done), by repeat (first | exact HDr | exact Drawn0.refl _ | apply Drawn0.step)⟩
      ·
       rw [if_neg c7] at H
       have c7b0 : ((rd l2_0 x1_1) == x1_1) = false := beq_eq_false_iff_ne.mpr c7
       have c7b1 : ((rd l2_0 x1_1) != x1_1) = true := bne_iff_ne.mpr c7
       have H' := Aside0.mk H
       clear H
       have hcz9_0 : wr.cell? ⟨gc2, 0, none⟩ = some (.slice A2_0 l2_0.length c2_0) := (blk_cell BK160.out 0).trans rfl
       have hfz9_0 := blk_frozen BK160.out 0
       have p161 : 0 ≤ (x1_1 : Int) := of_decide_eq_true (by first | (with_reducible assumption) | assumption)
       have q161 : x1_1 < (l2_0.length : Int) := of_decide_eq_true (by first | (with_reducible assumption) | assumption)
       obtain ⟨ad161, e161, hx161_0⟩ := Kd.at_int HR2_0.out x1_1 p161 q161
       replace hx161_0 := drawn_cell_ HDr hx161_0
       cases e161
       replace p161 := eq_true p161
       replace q161 := eq_true q161
       have p162 : 0 ≤ (x1_1 : Int) := of_decide_eq_true (by first | (with_reducible assumption) | assumption)
       have q162 : x1_1 < (l2_0.length : Int) := of_decide_eq_true (by first | (with_reducible assumption) | assumption)
       obtain ⟨ad162, e162, hx162_0⟩ := Kd.at_int HR2_0.out x1_1 p162 q162
       replace hx162_0 := drawn_cell_ HDr hx162_0
       obtain rfl : ad161 = ad162 := (by injection e162)
       replace p162 := eq_true p162
       replace q162 := eq_true q162
       go_wp2
       go_roundg k1
       case measure => have := HK1.out; omega
       case rel => exact ⟨(rd l2_0 x1_1), rs_, H', ⟨by have := HK1.out; omega⟩, ⟨bk_ BK160⟩, by repeat (first | exact HDr | exact Drawn0.refl _ | apply Drawn0.step)⟩
     ·
      rw [if_neg c6] at H
      exact absurd H (by simp)
    ·
     rw [if_neg c5] at H
     exact absurd H (by simp)

end Go.Proofs.Ytaellapacoikaaa.PB
